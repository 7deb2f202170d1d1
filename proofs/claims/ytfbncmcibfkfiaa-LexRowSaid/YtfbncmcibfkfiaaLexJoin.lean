/- Two lists of bytes with a newline between: the tokens of both, in order. No Go, no memory. -/
import Derived.Test.YtfbncmcibfkfiaaLexMore
set_option linter.unusedVariables false
set_option linter.unusedSimpArgs false
namespace Go.Proofs.Ytfbncmcibfkfiaa.LexSpec
open Go.Proofs.YtfbncmcibfkfiaaW.PrintWords Go.Proofs.Ytfbncmcibfkfiaa.Base

theorem skip_nl (b : Bool) (u t : List Int) : skip b (u ++ 10 :: t) = if skip b u < u.length then skip b u else u.length + 1 + skip false t := by
  induction u generalizing b with
  | nil => cases b <;> simp [skip] <;> omega
  | cons c cs ih =>
    have h1 := ih true
    have h2 := ih false
    rw [List.cons_append]
    cases b <;> simp only [skip, List.length_cons] <;> (repeat' split) <;> simp_all <;> (repeat' split at *) <;> simp_all <;> omega
theorem run_nl (p : Int → Bool) (h : p 10 = false) (u t : List Int) : run p (u ++ 10 :: t) = run p u := by
  induction u with
  | nil => simp [run, h]
  | cons c cs ih => simp only [List.cons_append, run, ih]
theorem token_nl (c : Int) (cs t : List Int) : token (c :: (cs ++ 10 :: t)) = token (c :: cs) := by
  have hr := run_nl inner rfl (c :: cs) t
  rw [List.cons_append] at hr
  have hq := run_nl inside rfl cs t
  have h1 := run_le inner (c :: cs)
  have h2 := run_le inside cs
  have e1 : (c :: (cs ++ 10 :: t)).take (run inner (c :: cs)) = (c :: cs).take (run inner (c :: cs)) := by
    rw [← List.cons_append, List.take_append_of_le_length h1]
  have e2 : (cs ++ 10 :: t).take (run inside cs) = cs.take (run inside cs) := List.take_append_of_le_length h2
  have e3 : (decide (run inside cs < (cs ++ 10 :: t).length) && (cs ++ 10 :: t).getD (run inside cs) 0 == 39) = (decide (run inside cs < cs.length) && cs.getD (run inside cs) 0 == 39) := by
    rcases Nat.lt_or_ge (run inside cs) cs.length with h | h
    · rw [decide_eq_true h, decide_eq_true (by rw [List.length_append]; omega), List.getD_eq_getElem?_getD, List.getElem?_append_left h, ← List.getD_eq_getElem?_getD]
    · have : run inside cs = cs.length := by omega
      rw [this, List.getD_eq_getElem?_getD, List.getElem?_append_right (Nat.le_refl _), Nat.sub_self]
      simp
  simp only [token, hr, hq, e1, e2, e3]
def join (n : Nat) (t : List Int) : Except Nat (List Tk) → Except Nat (List Tk)
  | .error e => .error e
  | .ok L => match all n t with
    | .error e => .error e
    | .ok R => .ok (L ++ R)
theorem join_ahead (n : Nat) (t : List Int) (q : Tk) (x : Except Nat (List Tk)) : join n t (ahead q x) = ahead q (join n t x) := by
  cases x with
  | error e => rfl
  | ok L =>
    simp only [ahead, join]
    cases all n t <;> rfl
theorem row_all (t : List Int) (n : Nat) : ∀ (u : List Int) (pos : Nat), u.length ≤ n → all pos (u ++ 10 :: t) = join (pos + u.length + 1) t (all pos u) := by
  induction n with
  | zero =>
    intro u pos h
    obtain rfl : u = [] := List.length_eq_zero_iff.1 (by omega)
    rw [all_nil pos [] rfl]
    exact row_blank t [] pos rfl
  | succ n ih =>
    intro u pos h
    have hle := skip_le false u
    cases hd : u.drop (skip false u) with
    | nil =>
      have hlen := congrArg List.length hd
      rw [List.length_drop] at hlen
      simp at hlen
      rw [all_nil pos u (by omega)]
      exact row_blank t u pos (by omega)
    | cons c cs =>
      have hlen := congrArg List.length hd
      rw [List.length_drop] at hlen
      simp at hlen
      have hs : skip false (u ++ 10 :: t) = skip false u := by rw [skip_nl, if_pos (by omega)]
      have hdd : (u ++ 10 :: t).drop (skip false (u ++ 10 :: t)) = c :: (cs ++ 10 :: t) := by
        rw [hs, List.drop_append_of_le_length (by omega), hd, List.cons_append]
      cases ht : token (c :: cs) with
      | none =>
        rw [all_none pos u c cs hd ht, all_none pos _ c _ hdd (by rw [token_nl, ht]), hs]
        rfl
      | some q =>
        obtain ⟨kd, a, b, k⟩ := q
        have hn := token_some _ _ _ _ _ ht
        rw [all_some pos u c cs hd kd a b k ht, all_some pos _ c _ hdd kd a b k (by rw [token_nl, ht]), hs, join_ahead, ← List.cons_append, List.take_append_of_le_length (by omega), List.drop_append_of_le_length (by omega),
          ih _ _ (by rw [List.length_drop]; simp at hn ⊢; omega), List.length_drop]
        simp only [List.length_cons] at hn ⊢
        rw [show pos + skip false u + k + (cs.length + 1 - k) + 1 = pos + u.length + 1 from by omega]
where
  row_blank (t u : List Int) (pos : Nat) (h : skip false u = u.length) : all pos (u ++ 10 :: t) = join (pos + u.length + 1) t (.ok []) := by
    have hs : skip false (u ++ 10 :: t) = u.length + 1 + skip false t := by rw [skip_nl, if_neg (by omega)]
    have hd : (u ++ 10 :: t).drop (skip false (u ++ 10 :: t)) = t.drop (skip false t) := by
      rw [hs, show (u ++ 10 :: t) = (u ++ [10]) ++ t by simp, List.drop_append, List.drop_of_length_le (by simp), List.nil_append, List.length_append, List.length_singleton, show u.length + 1 + skip false t - (u.length + 1) = skip false t from by omega]
    have hj : join (pos + u.length + 1) t (.ok []) = all (pos + u.length + 1) t := by
      simp only [join]
      cases all (pos + u.length + 1) t <;> rfl
    rw [hj]
    cases ht : t.drop (skip false t) with
    | nil =>
      have hlen := congrArg List.length ht
      rw [List.length_drop] at hlen
      have := skip_le false t
      simp at hlen
      rw [all_nil _ t (by omega), all_nil _ _ (by rw [hs, List.length_append, List.length_cons]; omega)]
    | cons c cs =>
      rw [ht] at hd
      cases hk : token (c :: cs) with
      | none => rw [all_none _ t c cs ht hk, all_none _ _ c cs hd hk, hs]; congr 1; omega
      | some q =>
        obtain ⟨kd, a, b, k⟩ := q
        rw [all_some _ t c cs ht kd a b k hk, all_some _ _ c cs hd kd a b k hk, hs, show pos + (u.length + 1 + skip false t) = pos + u.length + 1 + skip false t from by omega]
end Go.Proofs.Ytfbncmcibfkfiaa.LexSpec
