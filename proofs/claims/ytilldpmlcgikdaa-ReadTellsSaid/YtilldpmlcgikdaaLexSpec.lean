/- The plain functions of lex: how many bytes are so, what is skipped, which token bytes begin with, all tokens. No Go, no memory. -/
import Derived.Test.YtilldpmlcgikdaaWWords
set_option linter.unusedVariables false
set_option linter.unusedSimpArgs false
namespace Go.Proofs.Ytilldpmlcgikdaa.LexSpec
open Go.Proofs.YtilldpmlcgikdaaW.PrintWords

def letter (c : Int) : Bool := (decide (97 ≤ c) && decide (c ≤ 122)) || (decide (65 ≤ c) && decide (c ≤ 90))
def inner (c : Int) : Bool := letter c || ((decide (48 ≤ c) && decide (c ≤ 57)) || c == 95)
def inside (c : Int) : Bool := decide (32 ≤ c) && (decide (c ≤ 126) && c != 39)
def noNl (c : Int) : Bool := c != 10

/-- How many bytes are so, from the beginning on. -/
def run (p : Int → Bool) : List Int → Nat
  | [] => 0
  | c :: cs => if p c then run p cs + 1 else 0
theorem run_le (p : Int → Bool) (l : List Int) : run p l ≤ l.length := by
  induction l with
  | nil => simp [run]
  | cons c cs ih => simp only [run]; split <;> simp <;> omega
theorem run_eq (p : Int → Bool) (l : List Int) (n : Nat) (h : ∀ j, j < n → p (l.getD j 0) = true) (hn : n ≤ l.length) (he : n < l.length → p (l.getD n 0) = false) : run p l = n := by
  induction l generalizing n with
  | nil => simp at hn; subst hn; rfl
  | cons c cs ih =>
    cases n with
    | zero => have := he (by simp); simp at this; simp [run, this]
    | succ n =>
      have h0 := h 0 (by omega)
      simp at h0
      have := ih n (fun j hj => by have := h (j + 1) (by omega); simpa using this) (by simpa using hn) (fun hl => by have := he (by simpa using hl); simpa using this)
      simp [run, h0, this]
theorem run_lt (p : Int → Bool) (l : List Int) (j : Nat) (h : j < run p l) : p (l.getD j 0) = true := by
  induction l generalizing j with
  | nil => simp [run] at h
  | cons c cs ih =>
    simp only [run] at h
    split at h
    · cases j with
      | zero => simpa
      | succ j => have := ih j (by omega); simpa using this
    · omega
theorem run_end (p : Int → Bool) (l : List Int) (h : run p l < l.length) : p (l.getD (run p l) 0) = false := by
  induction l with
  | nil => simp [run] at h
  | cons c cs ih =>
    simp only [run] at h ⊢
    split at h
    · rename_i hc; simp only [hc, if_true]; have := ih (by simpa using h); simpa using this
    · rename_i hc; simp only [hc]; simpa using hc

def isName (l : List Int) : Bool := decide (1 ≤ l.length) && decide (l.length ≤ 16) && letter (l.getD 0 0) && (run inner l == l.length)
def isTerm (l : List Int) : Bool := decide (1 ≤ l.length) && decide (l.length ≤ 16) && (run inside l == l.length)
/-- How many bytes at the beginning stand between tokens; true: a note goes on. -/
def skip : Bool → List Int → Nat
  | _, [] => 0
  | false, c :: cs => if c == 32 || (c == 9 || c == 10) then skip false cs + 1 else if c == 35 then skip true cs + 1 else 0
  | true, c :: cs => if c == 10 then skip false cs + 1 else skip true cs + 1
theorem skip_le (b : Bool) (l : List Int) : skip b l ≤ l.length := by
  induction l generalizing b with
  | nil => cases b <;> simp [skip]
  | cons c cs ih =>
    have h1 := ih true
    have h2 := ih false
    cases b <;> simp only [skip] <;> (repeat' split) <;> simp <;> omega
theorem skip_note (l : List Int) : skip true l = run noNl l + skip false (l.drop (run noNl l)) := by
  induction l with
  | nil => simp [skip, run]
  | cons c cs ih =>
    by_cases h : c = 10
    · subst h; simp [skip, run, noNl]
    · have : noNl c = true := by simp [noNl, h]
      simp only [skip, run, this, if_true]
      rw [if_neg (by simpa using h), ih, List.drop_succ_cons]
      omega
/-- What a token of one byte is (0: none). -/
def sign (c : Int) : Int := if c == 61 then 3 else if c == 124 then 4 else if c == 59 then 5 else 0
/-- The token that bytes begin with: its kind, where its text begins and ends, how many bytes it has. -/
def token : List Int → Option (Int × Nat × Nat × Nat)
  | [] => none
  | c :: cs =>
    if letter c then (if isName ((c :: cs).take (run inner (c :: cs))) then some (1, 0, run inner (c :: cs), run inner (c :: cs)) else none)
    else if c == 39 then (if isTerm (cs.take (run inside cs)) && (decide (run inside cs < cs.length) && cs.getD (run inside cs) 0 == 39) then some (2, 1, run inside cs + 1, run inside cs + 2) else none)
    else if sign c != 0 then some (sign c, 0, 1, 1) else none
theorem skip_hash (cs : List Int) : skip false (35 :: cs) = run noNl (35 :: cs) + skip false ((35 :: cs).drop (run noNl (35 :: cs))) := by
  have h : noNl 35 = true := rfl
  have e : skip false (35 :: cs) = skip true cs + 1 := rfl
  rw [e, skip_note]
  simp only [run, h, if_true, List.drop_succ_cons]
  omega
/-- All tokens of a text from a byte on, or where there is none. -/
def toks (s : ByteArray) : Nat → Nat → Except Nat (List (Int × ByteArray × Int))
  | 0, _ => .ok []
  | k + 1, i =>
    if i < s.size then
      match token ((bytesOf s).drop i) with
      | none => .error i
      | some (kd, a, b, n) =>
        match toks s k (i + n + skip false ((bytesOf s).drop (i + n))) with
        | .ok l => .ok ((kd, s.extract (i + a) (i + b), (i : Int)) :: l)
        | .error e => .error e
    else .ok []
def tokens (s : ByteArray) : Except Nat (List (Int × ByteArray × Int)) := toks s (s.size + 1) (skip false (bytesOf s))
/-- What was gathered, and what is to come. -/
def joined (acc : List (Int × ByteArray × Int)) : Except Nat (List (Int × ByteArray × Int)) → Except Nat (List (Int × ByteArray × Int))
  | .ok l => .ok (acc ++ l)
  | .error e => .error e
theorem token_some (l : List Int) (kd : Int) (a b n : Nat) (h : token l = some (kd, a, b, n)) : 1 ≤ n ∧ n ≤ l.length ∧ a ≤ b ∧ b ≤ n := by
  cases l with
  | nil => cases h
  | cons c cs =>
    have h1 := run_le inner (c :: cs)
    have h2 := run_le inside cs
    simp only [token] at h
    split at h
    · rename_i hl
      split at h
      · simp only [Option.some.injEq, Prod.mk.injEq] at h
        obtain ⟨rfl, rfl, rfl, rfl⟩ := h
        have : inner c = true := by simp [inner, hl]
        have : 1 ≤ run inner (c :: cs) := by simp [run, this]
        omega
      · cases h
    · split at h
      · split at h
        · rename_i hc
          simp only [Option.some.injEq, Prod.mk.injEq] at h
          obtain ⟨rfl, rfl, rfl, rfl⟩ := h
          simp only [Bool.and_eq_true, decide_eq_true_eq] at hc
          simp only [List.length_cons]
          omega
        · cases h
      · split at h
        · simp only [Option.some.injEq, Prod.mk.injEq] at h
          obtain ⟨rfl, rfl, rfl, rfl⟩ := h
          simp
        · cases h
theorem joined_step (s : ByteArray) (k i : Nat) (acc : List (Int × ByteArray × Int)) (kd : Int) (a b n : Nat) (hi : i < s.size) (h : token ((bytesOf s).drop i) = some (kd, a, b, n)) :
    joined acc (toks s (k + 1) i) = joined (acc ++ [(kd, s.extract (i + a) (i + b), (i : Int))]) (toks s k (i + n + skip false ((bytesOf s).drop (i + n)))) := by
  simp only [toks, if_pos hi, h]
  cases toks s k (i + n + skip false ((bytesOf s).drop (i + n))) <;> simp [joined]
end Go.Proofs.Ytilldpmlcgikdaa.LexSpec
