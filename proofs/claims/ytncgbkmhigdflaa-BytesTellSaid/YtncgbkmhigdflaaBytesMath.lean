namespace Go.Proofs.Ytncgbkmhigdflaa.BM
/-- The sum of bytes, not yet cut. -/
def sumFrom (s : Int) : List Int → Int
  | [] => s
  | c :: l => sumFrom (s * 31 + c + 1) l
theorem sumFrom_diff (l : List Int) : ∀ s t, sumFrom s l - sumFrom t l = 31 ^ l.length * (s - t) := by
  induction l with
  | nil => intro s t; simp [sumFrom]
  | cons c l ih =>
    intro s t
    simp only [sumFrom, List.length_cons]
    rw [ih, Int.pow_succ, Int.mul_assoc]
    congr 1
    omega
theorem sumFrom_append (l m : List Int) : ∀ s, sumFrom s (l ++ m) = sumFrom (sumFrom s l) m := by
  induction l with
  | nil => intro s; rfl
  | cons c l ih => intro s; simp only [List.cons_append, sumFrom]; exact ih _
theorem dvd_of_pow31 (k : Nat) : ∀ (d : Int), (4294967296 : Int) ∣ 31 ^ k * d → (4294967296 : Int) ∣ d := by
  induction k with
  | zero => intro d h; simpa using h
  | succ k ih =>
    intro d h
    rw [Int.pow_succ, Int.mul_assoc] at h
    have := ih _ h
    omega
theorem sum_eq_iff (s : Int) (a b : List Int) (x y : Int) (hx : 0 ≤ x ∧ x ≤ 255) (hy : 0 ≤ y ∧ y ≤ 255) :
    sumFrom s (a ++ x :: b) % 4294967296 = sumFrom s (a ++ y :: b) % 4294967296 ↔ x = y := by
  constructor
  · intro h
    have h2 : (4294967296 : Int) ∣ sumFrom s (a ++ x :: b) - sumFrom s (a ++ y :: b) := by
      apply Int.dvd_of_emod_eq_zero
      omega
    rw [sumFrom_append, sumFrom_append] at h2
    simp only [sumFrom] at h2
    rw [sumFrom_diff] at h2
    have := dvd_of_pow31 _ _ h2
    omega
  · rintro rfl; rfl
/-- A number's bytes: seven bits each. -/
def enc : Nat → Int → List Int
  | 0, n => [n]
  | k + 1, n => if n < 128 then [n] else (n % 128 + 128) :: enc k (n / 128)
/-- What bytes begin with: how many more may come, the bytes, which one it is, what was gathered, by how much the next one counts. -/
def dec : Nat → List Int → Nat → Int → Int → Option (Int × Int)
  | 0, _, _, _, _ => none
  | _ + 1, [], _, _, _ => none
  | k + 1, c :: l, i, acc, by_ =>
    if c < 128 then (if acc + c % 128 * by_ > 2147483647 ∨ (0 < i ∧ c = 0) then none else some (acc + c % 128 * by_, (i : Int) + 1))
    else dec k l (i + 1) (acc + c % 128 * by_) (by_ * 128)
theorem enc_ne (k : Nat) (n : Int) : enc k n ≠ [] := by
  cases k with
  | zero => simp [enc]
  | succ k => simp only [enc]; split <;> simp
theorem enc_len (k : Nat) : ∀ n, 1 ≤ (enc k n).length ∧ (enc k n).length ≤ k + 1 := by
  induction k with
  | zero => intro n; simp [enc]
  | succ k ih =>
    intro n
    simp only [enc]
    split
    · simp
    · have := ih (n / 128)
      simp only [List.length_cons]; omega
theorem enc_bytes (k : Nat) : ∀ n : Int, 0 ≤ n → n < 128 ^ (k + 1) → ∀ c ∈ enc k n, 0 ≤ c ∧ c ≤ 255 := by
  induction k with
  | zero => intro n h0 h1 c hc; simp only [enc, List.mem_singleton] at hc; subst hc; omega
  | succ k ih =>
    intro n h0 h1 c hc
    simp only [enc] at hc
    split at hc
    · simp only [List.mem_singleton] at hc; omega
    · rcases List.mem_cons.1 hc with rfl | hc
      · omega
      · refine ih (n / 128) (by omega) ?_ c hc
        rw [Int.pow_succ] at h1
        omega
theorem dec_enc (k : Nat) : ∀ (n acc by_ : Int) (i : Nat) (rest : List Int), 0 ≤ n → n < 128 ^ (k + 1) → 1 ≤ by_ → acc + n * by_ ≤ 2147483647 → (i = 0 ∨ 0 < n) →
    dec (k + 1) (enc k n ++ rest) i acc by_ = some (acc + n * by_, (i : Int) + ((enc k n).length : Int)) := by
  induction k with
  | zero =>
    intro n acc by_ i rest h0 h1 hb hm hi
    have e : n % 128 = n := by omega
    simp only [enc, List.cons_append, List.nil_append, dec]
    rw [if_pos (by omega), e, if_neg (by omega)]
    simp
  | succ k ih =>
    intro n acc by_ i rest h0 h1 hb hm hi
    simp only [enc]
    by_cases h : n < 128
    · have e : n % 128 = n := by omega
      rw [if_pos h]
      simp only [List.cons_append, List.nil_append, dec]
      rw [if_pos (by omega), e, if_neg (by omega)]
      simp
    · rw [if_neg h]
      simp only [List.cons_append, dec, List.length_cons]
      have e : (n % 128 + 128) % 128 = n % 128 := by omega
      rw [if_neg (by omega), e]
      have hsum : acc + n % 128 * by_ + n / 128 * (by_ * 128) = acc + n * by_ := by
        have h2 : n = n % 128 + n / 128 * 128 := by omega
        have h3 : n * by_ = (n % 128 + n / 128 * 128) * by_ := by rw [← h2]
        rw [h3, Int.add_mul, Int.mul_comm by_ 128, ← Int.mul_assoc]
        omega
      rw [ih (n / 128) _ _ _ rest (by omega) (by rw [Int.pow_succ] at h1; omega) (by omega) (by omega) (Or.inr (by omega)), hsum]
      congr 2
      push_cast
      omega
theorem enc_inj {n m : Int} (h0 : 0 ≤ n) (h1 : n ≤ 2147483647) (h2 : 0 ≤ m) (h3 : m ≤ 2147483647) (h : enc 4 n = enc 4 m) : n = m := by
  have a := dec_enc 4 n 0 1 0 [] h0 (by omega) (by omega) (by omega) (Or.inl rfl)
  have b := dec_enc 4 m 0 1 0 [] h2 (by omega) (by omega) (by omega) (Or.inl rfl)
  rw [h, b] at a
  simp at a
  omega
/-- Which bytes go on. -/
theorem enc_more (k : Nat) : ∀ n : Int, 0 ≤ n → n < 128 ^ (k + 1) → ∀ (i : Nat) (h : i < (enc k n).length), (128 ≤ (enc k n)[i] ↔ i + 1 < (enc k n).length) := by
  induction k with
  | zero => intro n h0 h1 i h; simp [enc] at h ⊢; omega
  | succ k ih =>
    intro n h0 h1 i h
    by_cases hs : n < 128
    · have e : enc (k + 1) n = [n] := by simp only [enc, if_pos hs]
      simp only [e, List.length_singleton] at h ⊢
      have : i = 0 := by omega
      subst this
      simp; omega
    · have e : enc (k + 1) n = (n % 128 + 128) :: enc k (n / 128) := by simp only [enc, if_neg hs]
      simp only [e, List.length_cons] at h ⊢
      rcases i with _ | i
      · have := (enc_len k (n / 128)).1
        simp only [List.getElem_cons_zero]; omega
      · simp only [List.getElem_cons_succ]
        rw [ih (n / 128) (by omega) (by rw [Int.pow_succ] at h1; omega) i (by omega)]
        omega
end Go.Proofs.Ytncgbkmhigdflaa.BM
