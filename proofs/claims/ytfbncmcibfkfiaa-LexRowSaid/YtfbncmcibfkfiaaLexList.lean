/- Tokens of a list of bytes, by skipping and taking; how they stand to a text's tokens; two lists with a newline between. No Go, no memory. -/
import Derived.Test.YtfbncmcibfkfiaaLexSpec
import Derived.Test.YtfbncmcibfkfiaaBase
set_option linter.unusedVariables false
set_option linter.unusedSimpArgs false
namespace Go.Proofs.Ytfbncmcibfkfiaa.LexSpec
open Go.Proofs.YtfbncmcibfkfiaaW.PrintWords Go.Proofs.Ytfbncmcibfkfiaa.Base

abbrev Tk := Int × List Int × Nat
/-- A token ahead of what follows. -/
def ahead (t : Tk) : Except Nat (List Tk) → Except Nat (List Tk)
  | .ok l => .ok (t :: l)
  | .error e => .error e
/-- All tokens of a list, which begins at a byte of its text: first blanks, then a token. -/
def scan : Nat → Nat → List Int → Except Nat (List Tk)
  | 0, _, _ => .ok []
  | k + 1, pos, l =>
    match l.drop (skip false l) with
    | [] => .ok []
    | c :: cs =>
      match token (c :: cs) with
      | none => .error (pos + skip false l)
      | some (kd, a, b, n) => ahead (kd, ((c :: cs).take b).drop a, pos + skip false l) (scan k (pos + skip false l + n) ((c :: cs).drop n))

theorem scan_fuel (k k' pos : Nat) (l : List Int) (h : l.length < k) (h' : l.length < k') : scan k pos l = scan k' pos l := by
  induction k generalizing k' pos l with
  | zero => omega
  | succ k ih =>
    obtain ⟨k', rfl⟩ : ∃ m, k' = m + 1 := ⟨k' - 1, by omega⟩
    simp only [scan]
    cases hd : l.drop (skip false l) with
    | nil => rfl
    | cons c cs =>
      cases ht : token (c :: cs) with
      | none => simp only [ht]
      | some q =>
        obtain ⟨kd, a, b, n⟩ := q
        have hn := token_some _ _ _ _ _ ht
        have hlen := congrArg List.length hd
        rw [List.length_drop] at hlen
        simp only [ht]
        rw [ih k' _ _ (by rw [List.length_drop]; omega) (by rw [List.length_drop]; omega)]
/-- All tokens of a list. -/
def all (pos : Nat) (l : List Int) : Except Nat (List Tk) := scan (l.length + 1) pos l
theorem all_of (k pos : Nat) (l : List Int) (h : l.length < k) : scan k pos l = all pos l := scan_fuel _ _ _ _ h (Nat.lt_succ_self _)
theorem all_nil (pos : Nat) (l : List Int) (h : skip false l = l.length) : all pos l = .ok [] := by
  simp only [all, scan]
  rw [List.drop_of_length_le (by omega)]
theorem all_none (pos : Nat) (l : List Int) (c : Int) (cs : List Int) (h : l.drop (skip false l) = c :: cs) (ht : token (c :: cs) = none) : all pos l = .error (pos + skip false l) := by
  simp only [all, scan, h, ht]
theorem all_some (pos : Nat) (l : List Int) (c : Int) (cs : List Int) (h : l.drop (skip false l) = c :: cs) (kd : Int) (a b n : Nat) (ht : token (c :: cs) = some (kd, a, b, n)) :
    all pos l = ahead (kd, ((c :: cs).take b).drop a, pos + skip false l) (all (pos + skip false l + n) ((c :: cs).drop n)) := by
  have hn := token_some _ _ _ _ _ ht
  have hlen := congrArg List.length h
  rw [List.length_drop] at hlen
  simp only [all, scan, h, ht]
  rw [scan_fuel _ (((c :: cs).drop n).length + 1) _ _ (by rw [List.length_drop]; omega) (by omega)]
  rfl

/-- A text's tokens, as lists of bytes. -/
def asL : Except Nat (List (Int × ByteArray × Int)) → Except Nat (List Tk)
  | .ok l => .ok (l.map fun t => (t.1, bytesOf t.2.1, t.2.2.toNat))
  | .error e => .error e
theorem toks_scan (s : ByteArray) (k i : Nat) (hi : i ≤ s.size) : asL (toks s k (i + skip false ((bytesOf s).drop i))) = scan k i ((bytesOf s).drop i) := by
  induction k generalizing i with
  | zero => rfl
  | succ k ih =>
    have hsk := skip_le false ((bytesOf s).drop i)
    rw [List.length_drop, bytesOf_length] at hsk
    generalize hm : skip false ((bytesOf s).drop i) = m at *
    simp only [toks, scan, hm]
    rw [List.drop_drop]
    by_cases hlt : i + m < s.size
    · rw [if_pos hlt]
      have hlen : ((bytesOf s).drop (i + m)).length = s.size - (i + m) := by rw [List.length_drop, bytesOf_length]
      cases hd : (bytesOf s).drop (i + m) with
      | nil => rw [hd] at hlen; simp at hlen; omega
      | cons c cs =>
        rw [hd] at hlen
        cases ht : token (c :: cs) with
        | none => simp only [ht]; rfl
        | some q =>
          obtain ⟨kd, a, b, n⟩ := q
          have hn := token_some _ _ _ _ _ ht
          simp only [ht]
          have := ih (i + m + n) (by omega)
          have hdd : (bytesOf s).drop (i + m + n) = (c :: cs).drop n := by rw [← hd, List.drop_drop]
          rw [hdd] at this ⊢
          rw [← this]
          have htx : bytesOf (s.extract (i + m + a) (i + m + b)) = ((c :: cs).take b).drop a := by
            rw [bytesOf_extract, ← hd, List.drop_take, List.drop_drop]
            congr 1
            omega
          cases toks s k (i + m + n + skip false ((c :: cs).drop n)) with
          | ok l => simp [asL, ahead, htx]; omega
          | error e => simp [asL, ahead]
    · rw [if_neg hlt, List.drop_of_length_le (by rw [bytesOf_length]; omega)]
      rfl
theorem tokens_all (s : ByteArray) : asL (tokens s) = all 0 (bytesOf s) := by
  have := toks_scan s (s.size + 1) 0 (Nat.zero_le _)
  simp only [List.drop_zero, Nat.zero_add] at this
  unfold tokens
  rw [this]
  exact all_of _ _ _ (by rw [bytesOf_length]; omega)

/-! ### each token is of its kind -/
def kindOk (t : Tk) : Prop := (t.1 = 1 ∧ isName t.2.1 = true) ∨ (t.1 = 2 ∧ isTerm t.2.1 = true) ∨ (t.1 = 3 ∧ t.2.1 = [61]) ∨ (t.1 = 4 ∧ t.2.1 = [124]) ∨ (t.1 = 5 ∧ t.2.1 = [59])
theorem token_kind (c : Int) (cs : List Int) (kd : Int) (a b n p : Nat) (h : token (c :: cs) = some (kd, a, b, n)) : kindOk (kd, ((c :: cs).take b).drop a, p) := by
  simp only [token] at h
  split at h
  · split at h
    · rename_i hi
      simp only [Option.some.injEq, Prod.mk.injEq] at h
      obtain ⟨rfl, rfl, rfl, rfl⟩ := h
      exact .inl ⟨rfl, by simpa using hi⟩
    · cases h
  · split at h
    · split at h
      · rename_i hi
        simp only [Option.some.injEq, Prod.mk.injEq] at h
        obtain ⟨rfl, rfl, rfl, rfl⟩ := h
        simp only [Bool.and_eq_true] at hi
        exact .inr (.inl ⟨rfl, by simpa using hi.1⟩)
      · cases h
    · split at h
      · rename_i hs
        simp only [Option.some.injEq, Prod.mk.injEq] at h
        obtain ⟨rfl, rfl, rfl, rfl⟩ := h
        unfold sign at hs ⊢
        by_cases h1 : c = 61
        · subst h1; exact .inr (.inr (.inl ⟨rfl, rfl⟩))
        · by_cases h2 : c = 124
          · subst h2; exact .inr (.inr (.inr (.inl ⟨rfl, rfl⟩)))
          · by_cases h3 : c = 59
            · subst h3; exact .inr (.inr (.inr (.inr ⟨rfl, rfl⟩)))
            · simp [h1, h2, h3] at hs
      · cases h
theorem scan_kinds (k pos : Nat) (l : List Int) (r : List Tk) (h : scan k pos l = .ok r) : ∀ t ∈ r, kindOk t := by
  induction k generalizing pos l r with
  | zero => simp only [scan, Except.ok.injEq] at h; subst h; simp
  | succ k ih =>
    simp only [scan] at h
    cases hd : l.drop (skip false l) with
    | nil => rw [hd] at h; simp only [Except.ok.injEq] at h; subst h; simp
    | cons c cs =>
      rw [hd] at h
      cases ht : token (c :: cs) with
      | none => simp only [ht] at h; cases h
      | some q =>
        obtain ⟨kd, a, b, n⟩ := q
        simp only [ht] at h
        cases hs : scan k (pos + skip false l + n) ((c :: cs).drop n) with
        | error e => rw [hs] at h; cases h
        | ok r' =>
          rw [hs] at h
          simp only [ahead, Except.ok.injEq] at h
          subst h
          intro t ht'
          rcases List.mem_cons.1 ht' with rfl | ht'
          · exact token_kind c cs kd a b n _ ht
          · exact ih _ _ _ hs t ht'
theorem all_kinds (pos : Nat) (l : List Int) (r : List Tk) (h : all pos l = .ok r) : ∀ t ∈ r, kindOk t := scan_kinds _ _ _ _ h
end Go.Proofs.Ytfbncmcibfkfiaa.LexSpec
