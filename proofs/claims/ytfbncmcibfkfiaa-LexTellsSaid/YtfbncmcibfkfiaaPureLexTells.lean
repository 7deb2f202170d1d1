/- LexTells answers true at all texts of any size: the tokens, names and quotes are the document's. Conditions: none. -/
import Derived.Test.YtfbncmcibfkfiaaPx3
import Derived.Test.YtfbncmcibfkfiaaLexPure
import Derived.Test.YtfbncmcibfkfiaaLexList
set_option linter.unusedVariables false
set_option linter.unusedSimpArgs false
namespace Go.Proofs.Ytfbncmcibfkfiaa.Pure
open Go.RowKit Go.Proofs.Ytfbncmcibfkfiaa.P Go.Proofs.YtfbncmcibfkfiaaW.PrintWords Go.Proofs.YtfbncmcibfkfiaaW.PrintLast Go.Proofs.Ytfbncmcibfkfiaa.Base

theorem bt_get (s : ByteArray) (i : Nat) : bt s (i : Int) = (bytesOf s).getD i 0 := by
  rw [← rd_bytesOf]; rfl
theorem wrap_nat (i : Nat) (h : i ≤ 4000000) : wrap64 ((i : Int) + 1) = ((i + 1 : Nat) : Int) := by unfold wrap64; omega
theorem letter_is (c : Int) : topiaristref01_letter.f c = some (LexSpec.letter c) := by
  unfold topiaristref01_letter.f LexSpec.letter
  by_cases h1 : c ≥ 97 <;> by_cases h2 : c ≤ 122 <;> by_cases h3 : c ≥ 65 <;> by_cases h4 : c ≤ 90 <;> simp [*] <;> omega
theorem more_is (c : Int) : topiaristref01_more.f c = some (LexSpec.inner c) := by
  unfold topiaristref01_more.f LexSpec.inner
  rw [letter_is]
  cases LexSpec.letter c <;> by_cases h5 : c ≥ 48 <;> by_cases h6 : c ≤ 57 <;> simp [*] <;> omega

theorem name_loop (s : ByteArray) (hs : s.size ≤ 4000) (d : Nat) : ∀ (k i : Nat), i ≤ s.size → s.size - i = d → d < k → (∀ j, j < i → LexSpec.inner ((bytesOf s).getD j 0) = true) →
    topiaristref01_IsName.l0 k s (i : Int) = some (LexSpec.isName (bytesOf s)) := by
  induction d with
  | zero =>
    intro k i hi hd hk hj
    obtain ⟨k, rfl⟩ : ∃ m, k = m + 1 := ⟨k - 1, by omega⟩
    have hr : LexSpec.run LexSpec.inner (bytesOf s) = s.size := LexSpec.run_eq _ _ _ (fun j h => hj j (by omega)) (by rw [bytesOf_length]; omega) (fun h => by rw [bytesOf_length] at h; omega)
    simp only [topiaristref01_IsName.l0]
    rw [if_neg (by omega)]
    unfold LexSpec.isName
    rw [bytesOf_length, hr]
    by_cases h1 : 1 ≤ s.size
    · rw [if_pos (by omega), decide_eq_true h1]
      by_cases h2 : s.size ≤ 16
      · rw [if_pos (by omega), if_pos (by omega), decide_eq_true h2]
        have := bt_get s 0
        rw [show ((0 : Nat) : Int) = 0 from rfl] at this
        rw [letter_is, this]
        simp
      · rw [if_neg (by omega), decide_eq_false h2]; simp
    · rw [if_neg (by omega), decide_eq_false h1]; simp
  | succ d ih =>
    intro k i hi hd hk hj
    obtain ⟨k, rfl⟩ : ∃ m, k = m + 1 := ⟨k - 1, by omega⟩
    simp only [topiaristref01_IsName.l0]
    rw [if_pos (by omega), if_pos (by omega), more_is, bt_get, wrap_nat i (by omega)]
    simp only [Option.bind_some]
    cases hc : LexSpec.inner ((bytesOf s).getD i 0)
    · have hr : LexSpec.run LexSpec.inner (bytesOf s) = i := LexSpec.run_eq _ _ _ hj (by rw [bytesOf_length]; omega) (fun _ => hc)
      rw [if_neg (by simp)]
      unfold LexSpec.isName
      rw [hr, bytesOf_length, show (i == s.size) = false from by simp; omega]
      simp
    · rw [if_pos rfl]
      refine ih k (i + 1) (by omega) (by omega) (by omega) (fun j h => ?_)
      by_cases hji : j = i
      · subst hji; exact hc
      · exact hj j (by omega)
theorem name_is (s : ByteArray) (hs : s.size ≤ 4000) (k : Nat) (hk : s.size < k) : topiaristref01_IsName.f k s = some (LexSpec.isName (bytesOf s)) :=
  name_loop s hs s.size k 0 (by omega) (by omega) hk (fun j h => by omega)
theorem inside_of (c : Int) : LexSpec.inside c = (!(decide (c < 32)) && (!(decide (c > 126)) && !(decide (c = 39)))) := by
  unfold LexSpec.inside
  by_cases h1 : c < 32 <;> by_cases h2 : c > 126 <;> by_cases h3 : c = 39 <;> simp [h1, h2, h3] <;> omega
theorem term_loop (s : ByteArray) (hs : s.size ≤ 4000) (d : Nat) : ∀ (k i : Nat), i ≤ s.size → s.size - i = d → d < k → (∀ j, j < i → LexSpec.inside ((bytesOf s).getD j 0) = true) →
    topiaristref01_IsTerm.l0 k s (i : Int) = some (LexSpec.isTerm (bytesOf s)) := by
  induction d with
  | zero =>
    intro k i hi hd hk hj
    obtain ⟨k, rfl⟩ : ∃ m, k = m + 1 := ⟨k - 1, by omega⟩
    have hr : LexSpec.run LexSpec.inside (bytesOf s) = s.size := LexSpec.run_eq _ _ _ (fun j h => hj j (by omega)) (by rw [bytesOf_length]; omega) (fun h => by rw [bytesOf_length] at h; omega)
    simp only [topiaristref01_IsTerm.l0]
    rw [if_neg (by omega)]
    unfold LexSpec.isTerm
    rw [bytesOf_length, hr]
    by_cases h1 : 1 ≤ s.size
    · rw [if_pos (by omega), decide_eq_true h1]; simp; omega
    · rw [if_neg (by omega), decide_eq_false h1]; simp
  | succ d ih =>
    intro k i hi hd hk hj
    obtain ⟨k, rfl⟩ : ∃ m, k = m + 1 := ⟨k - 1, by omega⟩
    simp only [topiaristref01_IsTerm.l0]
    rw [if_pos (by omega), if_pos (by omega), bt_get, wrap_nat i (by omega)]
    cases hc : LexSpec.inside ((bytesOf s).getD i 0)
    · have hr : LexSpec.run LexSpec.inside (bytesOf s) = i := LexSpec.run_eq _ _ _ hj (by rw [bytesOf_length]; omega) (fun _ => hc)
      have hf : LexSpec.isTerm (bytesOf s) = false := by
        unfold LexSpec.isTerm
        rw [hr, bytesOf_length, show (i == s.size) = false from by simp; omega]
        simp
      rw [hf]
      rw [inside_of] at hc
      by_cases h1 : (bytesOf s).getD i 0 < 32
      · rw [if_pos h1]
      · rw [if_neg h1]
        by_cases h2 : (bytesOf s).getD i 0 > 126
        · rw [if_pos h2]
        · rw [if_neg h2]
          by_cases h3 : (bytesOf s).getD i 0 = 39
          · rw [if_pos h3]
          · rw [decide_eq_false h1, decide_eq_false h2, decide_eq_false h3] at hc; cases hc
    · have hc' := hc
      rw [inside_of] at hc'
      simp only [Bool.and_eq_true, Bool.not_eq_true', decide_eq_false_iff_not] at hc'
      rw [if_neg hc'.1, if_neg hc'.2.1, if_neg hc'.2.2]
      refine ih k (i + 1) (by omega) (by omega) (by omega) (fun j h => ?_)
      by_cases hji : j = i
      · subst hji; exact hc
      · exact hj j (by omega)
theorem term_is (s : ByteArray) (hs : s.size ≤ 4000) (k : Nat) (hk : s.size < k) : topiaristref01_IsTerm.f k s = some (LexSpec.isTerm (bytesOf s)) :=
  term_loop s hs s.size k 0 (by omega) (by omega) hk (fun j h => by omega)

/-! ### the tokens -/
theorem toks_fuel (s : ByteArray) (k k' i : Nat) (h : s.size - i < k) (h' : s.size - i < k') : LexSpec.toks s k i = LexSpec.toks s k' i := by
  induction k generalizing k' i with
  | zero => omega
  | succ k ih =>
    obtain ⟨k', rfl⟩ : ∃ m, k' = m + 1 := ⟨k' - 1, by omega⟩
    simp only [LexSpec.toks]
    by_cases hi : i < s.size
    · rw [if_pos hi, if_pos hi]
      cases ht : LexSpec.token ((bytesOf s).drop i) with
      | none => simp only
      | some q =>
        obtain ⟨kd, a, b, n⟩ := q
        have hn := LexSpec.token_some _ _ _ _ _ ht
        simp only
        rw [ih k' _ (by omega) (by omega)]
    · rw [if_neg hi, if_neg hi]
/-- The tokens from a byte on, between two tokens; true: within a note. -/
def after (s : ByteArray) (b : Bool) (i : Nat) := LexSpec.toks s (s.size + 1) (i + LexSpec.skip b ((bytesOf s).drop i))
theorem after_end (s : ByteArray) (b : Bool) : after s b s.size = .ok [] := by
  unfold after
  rw [List.drop_of_length_le (by rw [bytesOf_length]; omega)]
  cases b <;> simp [LexSpec.skip, LexSpec.toks]
theorem drop_at (s : ByteArray) (i : Nat) (hi : i < s.size) : (bytesOf s).drop i = (bytesOf s).getD i 0 :: (bytesOf s).drop (i + 1) := by
  rw [drop_cons s i hi, bytesOf_getD s i hi]
theorem after_blank (s : ByteArray) (i : Nat) (hi : i < s.size) (h : (bytesOf s).getD i 0 = 32 ∨ (bytesOf s).getD i 0 = 9 ∨ (bytesOf s).getD i 0 = 10) : after s false i = after s false (i + 1) := by
  unfold after
  have hk : LexSpec.skip false ((bytesOf s).drop i) = LexSpec.skip false ((bytesOf s).drop (i + 1)) + 1 := by
    rw [drop_at s i hi]
    rcases h with h | h | h <;> rw [h] <;> rfl
  rw [hk, show i + (LexSpec.skip false ((bytesOf s).drop (i + 1)) + 1) = i + 1 + LexSpec.skip false ((bytesOf s).drop (i + 1)) from by omega]
theorem after_hash (s : ByteArray) (i : Nat) (hi : i < s.size) (h : (bytesOf s).getD i 0 = 35) : after s false i = after s true (i + 1) := by
  unfold after
  have hk : LexSpec.skip false ((bytesOf s).drop i) = LexSpec.skip true ((bytesOf s).drop (i + 1)) + 1 := by
    rw [drop_at s i hi, h]; rfl
  rw [hk, show i + (LexSpec.skip true ((bytesOf s).drop (i + 1)) + 1) = i + 1 + LexSpec.skip true ((bytesOf s).drop (i + 1)) from by omega]
theorem after_note (s : ByteArray) (i : Nat) (hi : i < s.size) : after s true i = if (bytesOf s).getD i 0 = 10 then after s false i else after s true (i + 1) := by
  by_cases h : (bytesOf s).getD i 0 = 10
  · rw [if_pos h]
    unfold after
    rw [drop_at s i hi, h]
    rfl
  · rw [if_neg h]
    unfold after
    have hk : LexSpec.skip true ((bytesOf s).drop i) = LexSpec.skip true ((bytesOf s).drop (i + 1)) + 1 := by
      rw [drop_at s i hi, LexSpec.skip, if_neg (by simpa using h)]
    rw [hk, show i + (LexSpec.skip true ((bytesOf s).drop (i + 1)) + 1) = i + 1 + LexSpec.skip true ((bytesOf s).drop (i + 1)) from by omega]
def noBlank (c : Int) : Prop := ¬ c = 32 ∧ ¬ c = 9 ∧ ¬ c = 10 ∧ ¬ c = 35
theorem after_none (s : ByteArray) (i : Nat) (hi : i < s.size) (h : noBlank ((bytesOf s).getD i 0)) (ht : LexSpec.token ((bytesOf s).drop i) = none) : after s false i = .error i := by
  have hk : LexSpec.skip false ((bytesOf s).drop i) = 0 := by
    rw [drop_at s i hi]
    generalize (bytesOf s).getD i 0 = c at h
    obtain ⟨h1, h2, h3, h4⟩ := h
    simp [LexSpec.skip, h1, h2, h3, h4]
  unfold after
  rw [hk, Nat.add_zero i]
  simp only [LexSpec.toks, if_pos hi, ht]
theorem after_some (s : ByteArray) (i : Nat) (hi : i < s.size) (h : noBlank ((bytesOf s).getD i 0)) (kd : Int) (a b n : Nat) (ht : LexSpec.token ((bytesOf s).drop i) = some (kd, a, b, n)) :
    after s false i = LexSpec.joined [(kd, s.extract (i + a) (i + b), (i : Int))] (after s false (i + n)) := by
  have hk : LexSpec.skip false ((bytesOf s).drop i) = 0 := by
    rw [drop_at s i hi]
    generalize (bytesOf s).getD i 0 = c at h
    obtain ⟨h1, h2, h3, h4⟩ := h
    simp [LexSpec.skip, h1, h2, h3, h4]
  have hn := LexSpec.token_some _ _ _ _ _ ht
  unfold after
  rw [hk, Nat.add_zero i]
  rw [toks_fuel s (s.size + 1) (s.size + 2) (i + n + LexSpec.skip false ((bytesOf s).drop (i + n))) (by omega) (by omega), toks_fuel s (s.size + 1) (s.size + 3) i (by omega) (by omega)]
  have := LexSpec.joined_step s (s.size + 2) i [] kd a b n hi ht
  rw [List.nil_append] at this
  rw [← this]
  cases LexSpec.toks s (s.size + 2 + 1) i <;> simp [LexSpec.joined]
def fin (acc : List S36) : Except Nat (List (Int × ByteArray × Int)) → List S36 × Int × Int
  | .ok l => (acc ++ l.map tok, 0, 0)
  | .error e => ([], 11, (e : Int))
theorem fin_joined (acc : List S36) (q : Int × ByteArray × Int) (r : Except Nat (List (Int × ByteArray × Int))) : fin acc (LexSpec.joined [q] r) = fin (acc ++ [tok q]) r := by
  cases r <;> simp [fin, LexSpec.joined]

/-! ### the document's loops -/
/-- The loop between tokens tells what follows, from a byte on. -/
def Tells (s : ByteArray) (lo : Nat) : Prop := ∀ i, lo ≤ i → i ≤ s.size → ∀ (k : Nat) (acc : List S36), 4 * (s.size - i) + s.size + 12 ≤ k → acc.length + (s.size - i) ≤ 4000 →
  topiaristref01_Tokens.l0 k s (i : Int) acc 0 0 = some (fin acc (after s false i))
theorem note_loop (s : ByteArray) (hs : s.size ≤ 2000) (lo : Nat) (H : Tells s lo) (d : Nat) : ∀ i, lo ≤ i → i ≤ s.size → s.size - i = d → ∀ (k : Nat) (acc : List S36), 4 * (s.size - i) + s.size + 13 ≤ k → acc.length + (s.size - i) ≤ 4000 →
    topiaristref01_Tokens.l1 k s (i : Int) acc 0 0 = some (fin acc (after s true i)) := by
  induction d with
  | zero =>
    intro i hl hi hd k acc hk ha
    obtain ⟨k, rfl⟩ : ∃ m, k = m + 1 := ⟨k - 1, by omega⟩
    simp only [topiaristref01_Tokens.l1]
    rw [if_neg (by omega), H i hl hi k acc (by omega) ha]
    obtain rfl : i = s.size := by omega
    rw [after_end, after_end]
  | succ d ih =>
    intro i hl hi hd k acc hk ha
    obtain ⟨k, rfl⟩ : ∃ m, k = m + 1 := ⟨k - 1, by omega⟩
    simp only [topiaristref01_Tokens.l1]
    rw [if_pos (by omega), if_pos (by omega), bt_get, wrap_nat i (by omega), after_note s i (by omega)]
    by_cases h : (bytesOf s).getD i 0 = 10
    · rw [if_pos h, if_pos h]
      exact H i hl hi k acc (by omega) ha
    · rw [if_neg h, if_neg h]
      exact ih (i + 1) (by omega) (by omega) (by omega) k acc (by omega) (by omega)
theorem name_end (s : ByteArray) (hs : s.size ≤ 2000) (i p : Nat) (H : Tells s (i + 1)) (hip : i < p) (hp : p ≤ s.size) (hl : LexSpec.letter ((bytesOf s).getD i 0) = true) (hb : noBlank ((bytesOf s).getD i 0)) (hj : ∀ j, i ≤ j → j < p → LexSpec.inner ((bytesOf s).getD j 0) = true)
    (he : p < s.size → LexSpec.inner ((bytesOf s).getD p 0) = false) (k : Nat) (acc : List S36) (hk : 4 * (s.size - p) + s.size + 12 ≤ k) (ha : acc.length + (s.size - i) ≤ 4000) :
    (if 0 ≤ (i : Int) then (if (i : Int) ≤ (p : Int) then (if (p : Int) ≤ (s.size : Int) then ((topiaristref01_IsName.f k (s.extract (i : Int).toNat (p : Int).toNat)).bind fun t121 => (if t121 = true then (if acc.length < 4398046511104 then (topiaristref01_Tokens.l0 k s (p : Int) (acc ++ [(⟨1, s.extract (i : Int).toNat (p : Int).toNat, (i : Int)⟩ : S36)]) 0 0) else (none)) else (some (([] : List (S36)), 11, (i : Int))))) else (none)) else (none)) else (none)) = some (fin acc (after s false i)) := by
  rw [if_pos (by omega), if_pos (by omega), if_pos (by omega), Int.toNat_natCast, Int.toNat_natCast]
  have hi : i < s.size := by omega
  have hr : LexSpec.run LexSpec.inner ((bytesOf s).drop i) = p - i := by
    refine LexSpec.run_eq _ _ _ (fun j h => ?_) (by rw [List.length_drop, bytesOf_length]; omega) (fun h => ?_)
    · have := hj (i + j) (by omega) (by omega)
      rwa [List.getD_eq_getElem?_getD, List.getElem?_drop, ← List.getD_eq_getElem?_getD]
    · rw [List.length_drop, bytesOf_length] at h
      have := he (by omega)
      rwa [List.getD_eq_getElem?_getD, List.getElem?_drop, ← List.getD_eq_getElem?_getD, show i + (p - i) = p from by omega]
  rw [name_is _ (by rw [size_extract _ _ _ hp]; omega) k (by rw [size_extract _ _ _ hp]; omega), bytesOf_extract]
  simp only [Option.bind_some]
  have htok : LexSpec.token ((bytesOf s).drop i) = if LexSpec.isName (((bytesOf s).drop i).take (p - i)) then some (1, 0, p - i, p - i) else none := by
    rw [drop_at s i hi] at hr ⊢
    simp only [LexSpec.token]
    rw [if_pos hl, hr]
  cases hn : LexSpec.isName (((bytesOf s).drop i).take (p - i))
  · rw [hn] at htok
    rw [if_neg (by simp), after_none s i hi hb (by rw [htok]; rfl)]
    rfl
  · rw [hn] at htok
    rw [if_pos rfl, if_pos (by omega), after_some s i hi hb 1 0 (p - i) (p - i) (by rw [htok]; rfl), fin_joined]
    rw [show i + (p - i) = p from by omega, Nat.add_zero]
    exact H p (by omega) hp k _ (by omega) (by simp; omega)
theorem name_row (s : ByteArray) (hs : s.size ≤ 2000) (i : Nat) (H : Tells s (i + 1)) (hl : LexSpec.letter ((bytesOf s).getD i 0) = true) (hb : noBlank ((bytesOf s).getD i 0)) (d : Nat) : ∀ p, i < p → p ≤ s.size → s.size - p = d → (∀ j, i ≤ j → j < p → LexSpec.inner ((bytesOf s).getD j 0) = true) →
    ∀ (k : Nat) (acc : List S36), 4 * (s.size - p) + s.size + 13 ≤ k → acc.length + (s.size - i) ≤ 4000 → topiaristref01_Tokens.l2 k s (i : Int) (p : Int) acc 0 0 = some (fin acc (after s false i)) := by
  induction d with
  | zero =>
    intro p hip hp hd hj k acc hk ha
    obtain ⟨k, rfl⟩ : ∃ m, k = m + 1 := ⟨k - 1, by omega⟩
    simp only [topiaristref01_Tokens.l2]
    rw [if_neg (by omega)]
    exact name_end s hs i p H hip hp hl hb hj (by omega) k acc (by omega) ha
  | succ d ih =>
    intro p hip hp hd hj k acc hk ha
    obtain ⟨k, rfl⟩ : ∃ m, k = m + 1 := ⟨k - 1, by omega⟩
    simp only [topiaristref01_Tokens.l2]
    rw [if_pos (by omega), if_pos (by omega), more_is, bt_get, wrap_nat p (by omega)]
    simp only [Option.bind_some]
    cases hc : LexSpec.inner ((bytesOf s).getD p 0)
    · rw [if_neg (by simp)]
      exact name_end s hs i p H hip hp hl hb hj (fun _ => hc) k acc (by omega) ha
    · rw [if_pos rfl]
      refine ih (p + 1) (by omega) (by omega) (by omega) (fun j h1 h2 => ?_) k acc (by omega) ha
      by_cases hjp : j = p
      · subst hjp; exact hc
      · exact hj j h1 (by omega)

theorem getD_drop (l : List Int) (i j : Nat) : (l.drop i).getD j 0 = l.getD (i + j) 0 := by
  rw [List.getD_eq_getElem?_getD, List.getElem?_drop, ← List.getD_eq_getElem?_getD]
theorem quote_tok (s : ByteArray) (i : Nat) (hi : i < s.size) (hq : (bytesOf s).getD i 0 = 39) : LexSpec.token ((bytesOf s).drop i) =
    if LexSpec.isTerm (((bytesOf s).drop (i + 1)).take (LexSpec.run LexSpec.inside ((bytesOf s).drop (i + 1)))) && (decide (LexSpec.run LexSpec.inside ((bytesOf s).drop (i + 1)) < s.size - (i + 1)) && (bytesOf s).getD (i + 1 + LexSpec.run LexSpec.inside ((bytesOf s).drop (i + 1))) 0 == 39)
    then some (2, 1, LexSpec.run LexSpec.inside ((bytesOf s).drop (i + 1)) + 1, LexSpec.run LexSpec.inside ((bytesOf s).drop (i + 1)) + 2) else none := by
  rw [drop_at s i hi, hq]
  simp only [LexSpec.token]
  rw [if_neg (by decide), if_pos (by decide), getD_drop, List.length_drop, bytesOf_length]
theorem quote_end (s : ByteArray) (hs : s.size ≤ 2000) (i p : Nat) (H : Tells s (i + 1)) (hip : i < p) (hp : p < s.size) (hq : (bytesOf s).getD i 0 = 39) (hj : ∀ j, i < j → j < p → ¬ (bytesOf s).getD j 0 = 39)
    (he : (bytesOf s).getD p 0 = 39) (k : Nat) (acc : List S36) (hk : 4 * (s.size - p) + s.size + 12 ≤ k) (ha : acc.length + (s.size - i) ≤ 4000) :
    ((topiaristref01_IsTerm.f k (s.extract (i + 1) p)).bind fun t129 => (if t129 = true then (if acc.length < 4398046511104 then (topiaristref01_Tokens.l0 k s ((p + 1 : Nat) : Int) (acc ++ [(⟨2, s.extract (i + 1) p, (i : Int)⟩ : S36)]) 0 0) else (none)) else (some (([] : List (S36)), 11, (i : Int))))) = some (fin acc (after s false i)) := by
  have hi : i < s.size := by omega
  have hb : noBlank ((bytesOf s).getD i 0) := by rw [hq]; exact ⟨by decide, by decide, by decide, by decide⟩
  have ht := quote_tok s i hi hq
  rw [term_is _ (by rw [size_extract _ _ _ (by omega)]; omega) k (by rw [size_extract _ _ _ (by omega)]; omega), bytesOf_extract]
  simp only [Option.bind_some]
  have hle := LexSpec.run_le LexSpec.inside ((bytesOf s).drop (i + 1))
  rw [List.length_drop, bytesOf_length] at hle
  cases hn : LexSpec.isTerm (((bytesOf s).drop (i + 1)).take (p - (i + 1)))
  · rw [if_neg (by simp)]
    have hne : LexSpec.token ((bytesOf s).drop i) = none := by
      rw [ht, if_neg]
      intro hc
      simp only [Bool.and_eq_true, decide_eq_true_eq, beq_iff_eq] at hc
      obtain ⟨h1, h2, h3⟩ := hc
      have hge : p - (i + 1) ≤ LexSpec.run LexSpec.inside ((bytesOf s).drop (i + 1)) := by
        rcases Nat.lt_or_ge (LexSpec.run LexSpec.inside ((bytesOf s).drop (i + 1))) (p - (i + 1)) with h | h
        · exact absurd h3 (hj _ (by omega) (by omega))
        · exact h
      have hle2 : LexSpec.run LexSpec.inside ((bytesOf s).drop (i + 1)) ≤ p - (i + 1) := by
        rcases Nat.lt_or_ge (p - (i + 1)) (LexSpec.run LexSpec.inside ((bytesOf s).drop (i + 1))) with h | h
        · have := LexSpec.run_lt _ _ _ h
          rw [getD_drop, show i + 1 + (p - (i + 1)) = p from by omega, he] at this
          cases this
        · exact h
      rw [show LexSpec.run LexSpec.inside ((bytesOf s).drop (i + 1)) = p - (i + 1) from by omega, hn] at h1
      cases h1
    rw [after_none s i hi hb hne]
    rfl
  · rw [if_pos rfl, if_pos (by omega)]
    have hrun : LexSpec.run LexSpec.inside ((bytesOf s).drop (i + 1)) = p - (i + 1) := by
      have hlen : (((bytesOf s).drop (i + 1)).take (p - (i + 1))).length = p - (i + 1) := by rw [List.length_take, List.length_drop, bytesOf_length]; omega
      have hall : LexSpec.run LexSpec.inside (((bytesOf s).drop (i + 1)).take (p - (i + 1))) = p - (i + 1) := by
        unfold LexSpec.isTerm at hn
        simp only [Bool.and_eq_true, beq_iff_eq] at hn
        rw [hn.2, hlen]
      refine LexSpec.run_eq _ _ _ (fun j h => ?_) (by rw [List.length_drop, bytesOf_length]; omega) (fun h => ?_)
      · have := LexSpec.run_lt LexSpec.inside (((bytesOf s).drop (i + 1)).take (p - (i + 1))) j (by omega)
        rwa [List.getD_eq_getElem?_getD, List.getElem?_take_of_lt h, ← List.getD_eq_getElem?_getD] at this
      · rw [getD_drop, show i + 1 + (p - (i + 1)) = p from by omega, he]; rfl
    rw [hrun, hn, decide_eq_true (by omega), show i + 1 + (p - (i + 1)) = p from by omega, he] at ht
    rw [after_some s i hi hb 2 1 (p - (i + 1) + 1) (p - (i + 1) + 2) (by rw [ht]; rfl), fin_joined]
    rw [show i + (p - (i + 1) + 1) = p from by omega, show i + (p - (i + 1) + 2) = p + 1 from by omega]
    exact H (p + 1) (by omega) hp k _ (by omega) (by simp; omega)
theorem quote_row (s : ByteArray) (hs : s.size ≤ 2000) (i : Nat) (hi : i < s.size) (H : Tells s (i + 1)) (hq : (bytesOf s).getD i 0 = 39) (d : Nat) : ∀ p, i < p → p ≤ s.size → s.size - p = d → (∀ j, i < j → j < p → ¬ (bytesOf s).getD j 0 = 39) →
    ∀ (k : Nat) (acc : List S36), 4 * (s.size - p) + s.size + 13 ≤ k → acc.length + (s.size - i) ≤ 4000 → topiaristref01_Tokens.l3 k s (i : Int) (p : Int) acc 0 0 = some (fin acc (after s false i)) := by
  induction d with
  | zero =>
    intro p hip hp hd hj k acc hk ha
    obtain ⟨k, rfl⟩ : ∃ m, k = m + 1 := ⟨k - 1, by omega⟩
    simp only [topiaristref01_Tokens.l3]
    rw [if_neg (by omega), if_pos (by omega)]
    have hb : noBlank ((bytesOf s).getD i 0) := by rw [hq]; exact ⟨by decide, by decide, by decide, by decide⟩
    rw [after_none s i hi hb ?_]
    · rfl
    · rw [quote_tok s i hi hq, if_neg]
      intro hc
      simp only [Bool.and_eq_true, decide_eq_true_eq, beq_iff_eq] at hc
      exact hj _ (by omega) (by omega) hc.2.2
  | succ d ih =>
    intro p hip hp hd hj k acc hk ha
    obtain ⟨k, rfl⟩ : ∃ m, k = m + 1 := ⟨k - 1, by omega⟩
    simp only [topiaristref01_Tokens.l3]
    rw [if_pos (by omega), if_pos (by omega), bt_get, wrap_nat p (by omega), wrap_nat i (by omega)]
    by_cases he : (bytesOf s).getD p 0 = 39
    · rw [if_pos he, if_neg (by omega), if_pos (by omega), if_pos (by omega), if_pos (by omega), Int.toNat_natCast, Int.toNat_natCast]
      exact quote_end s hs i p H hip (by omega) hq hj he k acc (by omega) ha
    · rw [if_neg he]
      refine ih (p + 1) (by omega) (by omega) (by omega) (fun j h1 h2 => ?_) k acc (by omega) ha
      by_cases hjp : j = p
      · subst hjp; exact he
      · exact hj j h1 (by omega)

theorem sign_tok (s : ByteArray) (i : Nat) (hi : i < s.size) (c : UInt8) (hc : (bytesOf s).getD i 0 = (c.toNat : Int)) (kd : Int) (hl : LexSpec.letter (c.toNat : Int) = false) (hq : ((c.toNat : Int) == 39) = false) (hg : LexSpec.sign (c.toNat : Int) = kd) (hk : kd ≠ 0) (hb : noBlank (c.toNat : Int)) (H : Tells s (i + 1))
    (k : Nat) (acc : List S36) (hkk : 4 * (s.size - (i + 1)) + s.size + 12 ≤ k) (ha : acc.length + (s.size - i) ≤ 4000) :
    (if acc.length < 4398046511104 then (topiaristref01_Tokens.l0 k s ((i + 1 : Nat) : Int) (acc ++ [(⟨kd, (⟨#[c]⟩ : ByteArray), (i : Int)⟩ : S36)]) 0 0) else (none)) = some (fin acc (after s false i)) := by
  have ht : LexSpec.token ((bytesOf s).drop i) = some (kd, 0, 1, 1) := by
    rw [drop_at s i hi, hc]
    simp only [LexSpec.token]
    rw [if_neg (by rw [hl]; simp), if_neg (by rw [hq]; simp), hg, if_pos (by simpa using hk)]
  have hx : s.extract i (i + 1) = ⟨#[c]⟩ := by
    apply bytesOf_inj
    rw [bytesOf_extract, drop_at s i hi, hc, show i + 1 - i = 1 from by omega]
    rfl
  rw [if_pos (by omega), after_some s i hi (by rw [hc]; exact hb) kd 0 1 1 ht, fin_joined, Nat.add_zero i, hx]
  exact H (i + 1) (by omega) (by omega) k _ hkk (by simp; omega)
theorem blank_row (s : ByteArray) (i : Nat) (hi : i < s.size) (hs : s.size ≤ 2000) (H : Tells s (i + 1)) (h : (bytesOf s).getD i 0 = 32 ∨ (bytesOf s).getD i 0 = 9 ∨ (bytesOf s).getD i 0 = 10) (c : Int)
    (k : Nat) (acc : List S36) (hkk : 4 * (s.size - i) + s.size + 11 ≤ k) (ha : acc.length + (s.size - i) ≤ 4000) :
    topiaristref01_Tokens.j1 k s (i : Int) c ((i + 1 : Nat) : Int) true acc 0 0 = some (fin acc (after s false i)) := by
  obtain ⟨k, rfl⟩ : ∃ m, k = m + 1 := ⟨k - 1, by omega⟩
  simp only [topiaristref01_Tokens.j1]
  rw [if_pos trivial, after_blank s i hi h]
  exact H (i + 1) (by omega) (by omega) k acc (by omega) (by omega)
theorem other_row (s : ByteArray) (i : Nat) (hi : i < s.size) (hs : s.size ≤ 2000) (H : Tells s (i + 1)) (h32 : ¬ (bytesOf s).getD i 0 = 32) (h9 : ¬ (bytesOf s).getD i 0 = 9) (h10 : ¬ (bytesOf s).getD i 0 = 10)
    (k : Nat) (acc : List S36) (hkk : 4 * (s.size - i) + s.size + 11 ≤ k) (ha : acc.length + (s.size - i) ≤ 4000) :
    topiaristref01_Tokens.j1 k s (i : Int) ((bytesOf s).getD i 0) ((i + 1 : Nat) : Int) false acc 0 0 = some (fin acc (after s false i)) := by
  obtain ⟨k, rfl⟩ : ∃ m, k = m + 1 := ⟨k - 1, by omega⟩
  simp only [topiaristref01_Tokens.j1]
  rw [if_neg (by simp)]
  by_cases h35 : (bytesOf s).getD i 0 = 35
  · rw [if_pos h35, after_hash s i hi h35]
    exact note_loop s hs (i + 1) H (s.size - (i + 1)) (i + 1) (by omega) (by omega) rfl k acc (by omega) (by omega)
  · rw [if_neg h35]
    by_cases h61 : (bytesOf s).getD i 0 = 61
    · rw [if_pos h61]
      exact sign_tok s i hi 61 (by rw [h61]; rfl) 3 rfl rfl rfl (by decide) ⟨by decide, by decide, by decide, by decide⟩ H k acc (by omega) ha
    · rw [if_neg h61]
      by_cases h124 : (bytesOf s).getD i 0 = 124
      · rw [if_pos h124]
        exact sign_tok s i hi 124 (by rw [h124]; rfl) 4 rfl rfl rfl (by decide) ⟨by decide, by decide, by decide, by decide⟩ H k acc (by omega) ha
      · rw [if_neg h124]
        by_cases h59 : (bytesOf s).getD i 0 = 59
        · rw [if_pos h59]
          exact sign_tok s i hi 59 (by rw [h59]; rfl) 5 rfl rfl rfl (by decide) ⟨by decide, by decide, by decide, by decide⟩ H k acc (by omega) ha
        · rw [if_neg h59, letter_is]
          simp only [Option.bind_some]
          have hb : noBlank ((bytesOf s).getD i 0) := ⟨h32, h9, h10, h35⟩
          cases hl : LexSpec.letter ((bytesOf s).getD i 0)
          · rw [if_neg (by simp)]
            by_cases h39 : (bytesOf s).getD i 0 = 39
            · rw [if_pos h39]
              exact quote_row s hs i hi H h39 (s.size - (i + 1)) (i + 1) (by omega) (by omega) rfl (fun j h1 h2 => by omega) k acc (by omega) ha
            · rw [if_neg h39, after_none s i hi hb ?_]
              · rfl
              · rw [drop_at s i hi]
                simp only [LexSpec.token]
                rw [if_neg (by rw [hl]; simp), if_neg (by simpa using h39), if_neg]
                unfold LexSpec.sign
                generalize (bytesOf s).getD i 0 = c at *
                simp [h61, h124, h59]
          · rw [if_pos rfl]
            refine name_row s hs i H hl hb (s.size - (i + 1)) (i + 1) (by omega) (by omega) rfl ?_ k acc (by omega) ha
            intro j h1 h2
            have e : j = i := by omega
            rw [e, LexSpec.inner, hl, Bool.true_or]
theorem tells_step (s : ByteArray) (hs : s.size ≤ 2000) (i : Nat) (H : Tells s (i + 1)) : Tells s i := by
  intro i' hl hi k acc hk ha
  by_cases he : i' = i
  · subst he
    obtain ⟨k, rfl⟩ : ∃ m, k = m + 1 := ⟨k - 1, by omega⟩
    simp only [topiaristref01_Tokens.l0]
    by_cases hlt : i' < s.size
    · rw [if_pos (by omega), if_pos (by omega), bt_get, wrap_nat i' (by omega)]
      by_cases h32 : (bytesOf s).getD i' 0 = 32
      · rw [if_pos h32]
        exact blank_row s i' hlt hs H (.inl h32) _ k acc (by omega) ha
      · rw [if_neg h32]
        by_cases h9 : (bytesOf s).getD i' 0 = 9
        · rw [if_pos h9]
          exact blank_row s i' hlt hs H (.inr (.inl h9)) _ k acc (by omega) ha
        · rw [if_neg h9]
          by_cases h10 : (bytesOf s).getD i' 0 = 10
          · rw [show ((bytesOf s).getD i' 0 == 10) = true from by rw [h10]; rfl]
            exact blank_row s i' hlt hs H (.inr (.inr h10)) _ k acc (by omega) ha
          · rw [show ((bytesOf s).getD i' 0 == 10) = false from by generalize (bytesOf s).getD i' 0 = c at *; simp [h10]]
            exact other_row s i' hlt hs H h32 h9 h10 k acc (by omega) ha
    · obtain rfl : i' = s.size := by omega
      rw [if_neg (by omega), after_end]
      simp [fin]
  · exact H i' (by omega) hi k acc hk ha
theorem tells_all (s : ByteArray) (hs : s.size ≤ 2000) (d i : Nat) (h : i + d = s.size + 1) : Tells s i := by
  induction d generalizing i with
  | zero => intro i' hl hi; omega
  | succ d ih => exact tells_step s hs i (ih (i + 1) (by omega))
theorem tokens_same (s : ByteArray) (k : Nat) (hk : 5 * s.size + 12 ≤ k) : topiaristref01_Tokens.f k s = lex_Tokens.f s := by
  unfold topiaristref01_Tokens.f lex_Tokens.f
  by_cases hs : 2000 < s.size
  · rw [if_pos (by omega), if_pos hs]
  · rw [if_neg (by omega), if_neg hs]
    have := tells_all s (by omega) (s.size + 1) 0 (by omega) 0 (by omega) (by omega) k [] (by omega) (by simp; omega)
    rw [show ((0 : Nat) : Int) = 0 from rfl] at this
    rw [this]
    have e : after s false 0 = LexSpec.tokens s := by
      unfold after LexSpec.tokens
      rw [List.drop_zero, Nat.zero_add]
    rw [e]
    cases LexSpec.tokens s <;> simp [fin]
theorem same_loop (l : List S36) (hl : l.length ≤ 4000) (d : Nat) : ∀ (k i : Nat), i ≤ l.length → l.length - i = d → d < k → topiaristkeep_Tokens.l0 k l l (i : Int) = some true := by
  induction d with
  | zero =>
    intro k i hi hd hk
    obtain ⟨k, rfl⟩ : ∃ m, k = m + 1 := ⟨k - 1, by omega⟩
    simp only [topiaristkeep_Tokens.l0]
    rw [if_neg (by omega)]
  | succ d ih =>
    intro k i hi hd hk
    obtain ⟨k, rfl⟩ : ∃ m, k = m + 1 := ⟨k - 1, by omega⟩
    simp only [topiaristkeep_Tokens.l0]
    rw [if_pos (by omega), if_pos (by omega), if_pos (by omega), if_neg (by simp), wrap_nat i (by omega)]
    exact ih k (i + 1) (by omega) (by omega) (by omega)
theorem tokens_some (s : ByteArray) : ∃ l r2 r3, lex_Tokens.f s = some (l, r2, r3) ∧ l.length ≤ 4000 := by
  unfold lex_Tokens.f
  by_cases hs : 2000 < s.size
  · exact ⟨[], 14, 0, by rw [if_pos hs], by simp⟩
  · rw [if_neg hs]
    cases hto : LexSpec.tokens s with
    | error e => exact ⟨[], 11, _, rfl, by simp⟩
    | ok l =>
      have hc := toks_count s _ _ _ hto
      exact ⟨l.map tok, 0, 0, rfl, by rw [List.length_map]; omega⟩

theorem LexTells : topiaristlaw01_LexTells.Pure := by
  intro s x hs hx
  refine ⟨5 * s.size + x.size + 8000, ?_⟩
  unfold topiaristlaw01_LexTells.f
  have hj : ∀ k, topiaristlaw01_LexTells.j0 (k + 1) s x true = some true := by
    intro k
    simp only [topiaristlaw01_LexTells.j0]
    rw [if_pos trivial, wakes_true]
    rfl
  by_cases h1 : (s.size : Int) > 4000
  · rw [if_pos h1]; exact hj _
  · rw [if_neg h1]
    by_cases h2 : (x.size : Int) > 1000
    · rw [decide_eq_true h2]; exact hj _
    · rw [decide_eq_false h2]
      simp only [topiaristlaw01_LexTells.j0]
      obtain ⟨l, r2, r3, hf, hl⟩ := tokens_some s
      rw [if_neg (by simp), tokens_same s _ (by omega), hf]
      simp only [Option.bind_some]
      have hk : topiaristkeep_Tokens.f (5 * s.size + x.size + 7999) l l = some true := by
        unfold topiaristkeep_Tokens.f
        rw [if_pos rfl]
        exact same_loop l hl l.length _ 0 (by omega) (by omega) (by omega)
      rw [hk]
      simp only [Option.bind_some, if_true]
      rw [lex_IsName.of _ (by omega), name_is _ (by omega) _ (by omega), lex_IsTerm.of _ (by omega), term_is _ (by omega) _ (by omega), wakes_true]
      simp
end Go.Proofs.Ytfbncmcibfkfiaa.Pure
