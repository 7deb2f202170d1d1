/- What the document's functions of bytes tell, in plain words. -/
import Derived.Test.YtncgbkmhigdflaaBytesPure
import Derived.Test.YtncgbkmhigdflaaPx13
import Derived.Test.YtncgbkmhigdflaaPx11
import Derived.Test.YtncgbkmhigdflaaPx16
import Derived.Test.YtncgbkmhigdflaaPx12
import Derived.Test.YtncgbkmhigdflaaPx10
set_option linter.unusedVariables false
set_option linter.unusedSimpArgs false
namespace Go.Proofs.Ytncgbkmhigdflaa.Pure
open Go.RowKit Go.Proofs.Ytncgbkmhigdflaa.P Go.Proofs.YtncgbkmhigdflaaW.PrintWords Go.Proofs.YtncgbkmhigdflaaW.PrintLast Go.Proofs.Ytncgbkmhigdflaa.Base Go.Proofs.Ytncgbkmhigdflaa.BM
def got (o : Option (Int × Int)) : Int × Int × ByteArray × Bool := match o with
  | some (n, u) => (n, u, ⟨#[]⟩, true)
  | none => (0, 0, ⟨#[]⟩, false)
theorem ref_dec (l : List Int) (hl : Bytes l) (hm : l.length ≤ 140737488351232) (d : Nat) : ∀ (k i : Nat) (acc : Int), 5 - i = d → i ≤ 5 → 2 * d + 4 ≤ k → 0 ≤ acc → acc < 128 ^ i →
    topiaristref20_ReadNum.l0 k l acc (128 ^ i) (i : Int) = some (got (dec d (l.drop i) i acc (128 ^ i))) := by
  induction d with
  | zero =>
    intro k i acc hd hi hk h0 h1
    obtain ⟨k, rfl⟩ : ∃ m, k = m + 2 := ⟨k - 2, by omega⟩
    have : i = 5 := by omega
    subst this
    simp only [topiaristref20_ReadNum.l0, topiaristref20_ReadNum.j1, dec, got]
    split <;> simp
  | succ d ih =>
    intro k i acc hd hi hk h0 h1
    obtain ⟨k, rfl⟩ : ∃ m, k = m + 2 := ⟨k - 2, by omega⟩
    simp only [topiaristref20_ReadNum.l0, topiaristref20_ReadNum.j1]
    by_cases hlt : i < l.length
    · rw [if_pos (by omega), if_pos (by simp; omega), if_pos (by omega), if_pos (by omega), rd_get l i hlt, List.drop_eq_getElem_cons hlt]
      have hc := hl l[i] (List.getElem_mem hlt)
      generalize l[i] = c at hc
      have hp : (128 : Int) ^ i ≤ 268435456 := by
        have h4 : i = 0 ∨ i = 1 ∨ i = 2 ∨ i = 3 ∨ i = 4 := by omega
        rcases h4 with rfl | rfl | rfl | rfl | rfl <;> decide
      have hp0 : (0 : Int) < 128 ^ i := Int.pow_pos (by decide)
      have hmul0 : 0 ≤ c % 128 * 128 ^ i := Int.mul_nonneg (by omega) (by omega)
      have hmul1 : c % 128 * 128 ^ i ≤ 127 * 128 ^ i := Int.mul_le_mul_of_nonneg_right (by omega) (by omega)
      have hw : wrap64 (acc + wrap64 (wrap64 (Int.tmod c 128) * 128 ^ i)) = acc + c % 128 * 128 ^ i := by
        rw [Int.tmod_eq_emod_of_nonneg hc.1, show wrap64 (c % 128) = c % 128 from by unfold wrap64; omega, show wrap64 (c % 128 * 128 ^ i) = c % 128 * 128 ^ i from by unfold wrap64; omega]
        unfold wrap64; omega
      rw [hw, show wrap64 ((i : Int) + 1) = ((i + 1 : Nat) : Int) from by unfold wrap64; omega, show wrap64 ((128 : Int) ^ i * 128) = 128 ^ (i + 1) from by rw [Int.pow_succ]; unfold wrap64; omega]
      simp only [dec]
      by_cases h128 : c < 128
      · rw [if_pos h128, if_pos h128]
        by_cases hbig : acc + c % 128 * 128 ^ i > 2147483647
        · rw [if_pos hbig, if_pos (Or.inl hbig)]; rfl
        · rw [if_neg hbig]
          by_cases hz : 0 < i ∧ c = 0
          · rw [if_pos (by omega), if_pos hz.2, if_pos (Or.inr hz)]; rfl
          · rw [if_neg (show ¬ (acc + c % 128 * 128 ^ i > 2147483647 ∨ 0 < i ∧ c = 0) from fun h => h.elim hbig hz)]
            by_cases hi0 : (i : Int) > 0
            · rw [if_pos hi0, if_neg (fun h => hz ⟨by omega, h⟩)]; simp [got]
            · rw [if_neg hi0]; simp [got]
      · rw [if_neg h128, if_neg h128]
        rw [ih k (i + 1) _ (by omega) (by omega) (by omega) (by omega) (by rw [Int.pow_succ]; omega), Int.pow_succ]
    · rw [if_neg (by omega), List.drop_of_length_le (by omega)]
      simp [dec, got]
theorem refReadNum_is (k : Nat) (l : List Int) (hl : Bytes l) (hm : l.length ≤ 140737488351232) (hk : 14 ≤ k) : topiaristref20_ReadNum.f k l = some (got (dec 5 l 0 0 1)) := by
  have := ref_dec l hl hm 5 k 0 0 rfl (by omega) (by omega) (by omega) (by decide)
  unfold topiaristref20_ReadNum.f
  simpa using this
theorem dec_le (k : Nat) : ∀ (l : List Int) (i : Nat) (acc by_ n u : Int), dec k l i acc by_ = some (n, u) → (∀ c ∈ l, 0 ≤ c) → 0 ≤ acc → 0 ≤ by_ → 0 ≤ n ∧ n ≤ 2147483647 ∧ (i : Int) + 1 ≤ u ∧ u ≤ i + l.length := by
  induction k with
  | zero => intro l i acc by_ n u h; cases h
  | succ k ih =>
    intro l i acc by_ n u h hl h0 h1
    cases l with
    | nil => simp [dec] at h
    | cons c l =>
      simp only [dec] at h
      have hm : 0 ≤ c % 128 * by_ := Int.mul_nonneg (by omega) h1
      split at h
      · split at h
        · cases h
        · simp only [Option.some.injEq, Prod.mk.injEq] at h
          obtain ⟨rfl, rfl⟩ := h
          simp only [List.length_cons]
          omega
      · have := ih l (i + 1) _ _ n u h (fun c hc => hl c (by simp [hc])) (by omega) (by omega)
        simp only [List.length_cons]
        omega
theorem ref_num_enc (j : Nat) : ∀ (k : Nat) (x : List Int) (n : Int), j < k → 0 ≤ n → n < 128 ^ (j + 1) → n ≤ 2147483647 → x.length + j < 140737488355328 → topiaristref20_Num.l0 k n x = some (x ++ enc j n) := by
  induction j with
  | zero =>
    intro k x n hk h0 h1 h2 hx
    obtain ⟨k, rfl⟩ : ∃ m, k = m + 1 := ⟨k - 1, by omega⟩
    simp only [topiaristref20_Num.l0, enc]
    rw [if_neg (by omega), if_pos (by omega), show n % 256 = n from by omega]
  | succ j ih =>
    intro k x n hk h0 h1 h2 hx
    obtain ⟨k, rfl⟩ : ∃ m, k = m + 1 := ⟨k - 1, by omega⟩
    simp only [topiaristref20_Num.l0, enc]
    by_cases h : n < 128
    · rw [if_neg (by omega), if_pos (by omega), if_pos h, show n % 256 = n from by omega]
    · rw [if_pos (by omega), if_pos (by omega), if_neg h, Int.tmod_eq_emod_of_nonneg h0, Int.tdiv_eq_ediv_of_nonneg h0, show wrap64 (n / 128) = n / 128 from by unfold wrap64; omega, show wrap64 (n % 128 + 128) % 256 = n % 128 + 128 from by unfold wrap64; omega]
      rw [ih k _ _ (by omega) (by omega) (by rw [Int.pow_succ] at h1; omega) (by omega) (by simp; omega)]
      simp
theorem refNum_is (k : Nat) (l : List Int) (n : Int) (hk : 4 < k) (hl : l.length + 4 < 140737488355328) : topiaristref20_Num.f k l n = some (l ++ enc 4 (cut n)) := by
  unfold topiaristref20_Num.f
  have := cut_le n
  rw [Option.bind_some, if_pos (by simp; omega), List.nil_append]
  exact ref_num_enc 4 k l (cut n) hk this.1 (by omega) this.2 hl
theorem ref_sum_loop (l : List Int) (hl : Bytes l) (d : Nat) : ∀ (k i : Nat) (s : Int), l.length - i = d → d < k → i ≤ l.length → l.length ≤ 140737488355328 → 0 ≤ s → s < 4294967296 → topiaristref20_Sum.l0 k l s (i : Int) = some (sumFrom s (l.drop i) % 4294967296) := by
  induction d with
  | zero =>
    intro k i s hd hk hi hm h0 h1
    obtain ⟨k, rfl⟩ : ∃ m, k = m + 1 := ⟨k - 1, by omega⟩
    simp only [topiaristref20_Sum.l0]
    rw [if_neg (by omega), List.drop_of_length_le (by omega)]
    simp only [sumFrom]
    congr 1
    omega
  | succ d ih =>
    intro k i s hd hk hi hm h0 h1
    obtain ⟨k, rfl⟩ : ∃ m, k = m + 1 := ⟨k - 1, by omega⟩
    have hlt : i < l.length := by omega
    have hc := hl l[i] (List.getElem_mem hlt)
    simp only [topiaristref20_Sum.l0]
    rw [if_pos (by omega), if_pos (by omega), rd_get l i hlt, show wrap64 ((i : Int) + 1) = ((i + 1 : Nat) : Int) from by unfold wrap64; omega]
    rw [ih k (i + 1) _ (by omega) (by omega) (by omega) hm (by omega) (by omega), List.drop_eq_getElem_cons hlt]
    simp only [sumFrom]
    congr 1
    exact sumFrom_mod _ _ _ (by omega)
theorem refSum_is (k : Nat) (l : List Int) (hl : Bytes l) (hk : l.length < k) (hm : l.length ≤ 140737488355328) : topiaristref20_Sum.f k l = some (sum l) := by
  have := ref_sum_loop l hl l.length k 0 7 (by omega) hk (by omega) hm (by decide) (by decide)
  unfold topiaristref20_Sum.f
  simpa [sum] using this
theorem refSeal_is (k : Nat) (l : List Int) (hl : Bytes l) (hk : l.length < k) (hm : l.length + 4 < 140737488355328) : topiaristref20_Seal.f k l = some (l ++ tail4 (sum l)) := by
  unfold topiaristref20_Seal.f
  rw [refSum_is k l hl hk (by omega), Option.bind_some, Option.bind_some, if_pos (by simp; omega), Option.bind_some, Option.bind_some, if_pos (by simp; omega)]
  rfl
theorem equal_loop (a b : List Int) (he : a.length = b.length) (hm : a.length ≤ 140737488355328) (d : Nat) : ∀ (k i : Nat), a.length - i = d → d < k → i ≤ a.length → slices_Equal_byte_byte.l0 k a b (a.length : Int) (i : Int) = some (decide (a.drop i = b.drop i)) := by
  induction d with
  | zero =>
    intro k i hd hk hi
    obtain ⟨k, rfl⟩ : ∃ m, k = m + 1 := ⟨k - 1, by omega⟩
    simp only [slices_Equal_byte_byte.l0]
    rw [if_neg (by omega), List.drop_of_length_le (by omega), List.drop_of_length_le (by omega)]
    rfl
  | succ d ih =>
    intro k i hd hk hi
    obtain ⟨k, rfl⟩ : ∃ m, k = m + 1 := ⟨k - 1, by omega⟩
    have hlt : i < a.length := by omega
    simp only [slices_Equal_byte_byte.l0]
    rw [if_pos (by omega), if_pos (by omega), if_pos (by omega), if_pos (by omega), rd_get a i hlt, rd_get b i (by omega), show wrap64 ((i : Int) + 1) = ((i + 1 : Nat) : Int) from by unfold wrap64; omega, List.drop_eq_getElem_cons hlt, List.drop_eq_getElem_cons (by omega : i < b.length)]
    by_cases hx : a[i] = b[i]
    · rw [if_pos hx, ih k (i + 1) (by omega) (by omega) (by omega)]
      simp only [List.cons.injEq, hx, true_and]
    · rw [if_neg hx]
      simp only [List.cons.injEq, hx, false_and, decide_false]
theorem Equal_is (k : Nat) (a b : List Int) (hm : a.length ≤ 140737488355328) (hk : a.length < k) : slices_Equal_byte_byte.f k a b = some (decide (a = b)) := by
  unfold slices_Equal_byte_byte.f
  by_cases he : a.length = b.length
  · rw [if_pos (by omega)]
    have := equal_loop a b he hm a.length k 0 (by omega) hk (by omega)
    simpa using this
  · rw [if_neg (by omega)]
    congr 1
    rw [eq_comm, decide_eq_false_iff_not]
    exact fun h => he (by rw [h])
def opened (l : List Int) : List Int × Int :=
  if l.length < 4 then ([], 16) else if l.take (l.length - 4) ++ tail4 (sum (l.take (l.length - 4))) = l then (l.take (l.length - 4), 0) else ([], 17)
theorem bytes_take {l : List Int} (h : Bytes l) (n : Nat) : Bytes (l.take n) := fun c hc => h c (List.mem_of_mem_take hc)
theorem bytes_tail4 (s : Int) : Bytes (tail4 s) := fun c hc => by
  simp only [tail4, List.mem_cons, List.not_mem_nil, or_false] at hc
  omega
theorem Open_is (k : Nat) (l : List Int) (hl : Bytes l) (hm : l.length + 4 < 140737488355328) (hk : l.length + 4 < k) : bytes_Open.f k l = some (opened l) := by
  unfold bytes_Open.f opened
  by_cases h4 : l.length < 4
  · rw [if_pos (by omega), if_pos h4]
  · rw [if_neg (by omega), if_neg h4]
    have hlen : (l.take (l.length - 4)).length = l.length - 4 := by rw [List.length_take]; omega
    unfold slices_Clone_byte_byte.f
    rw [if_pos (by omega), Option.bind_some, Seal_is k _ (bytes_take hl _) (by omega) (by omega), Option.bind_some, Equal_is k _ _ (by simp [tail4]; omega) (by simp [tail4]; omega), Option.bind_some]
    simp only [decide_eq_true_eq]
    split <;> rfl
theorem refOpen_is (k : Nat) (l : List Int) (hl : Bytes l) (hm : l.length + 4 < 140737488355328) (hk : l.length + 4 < k) : topiaristref20_Open.f k l = some (opened l) := by
  unfold topiaristref20_Open.f opened
  by_cases h4 : l.length < 4
  · rw [if_pos (by omega), if_pos h4]
  · have hw : wrap64 ((l.length : Int) - 4) = ((l.length - 4 : Nat) : Int) := by unfold wrap64; omega
    have hlen : (l.take (l.length - 4)).length = l.length - 4 := by rw [List.length_take]; omega
    rw [if_neg (by omega), if_neg h4, hw, if_pos (by omega), if_pos (by omega), Int.toNat_natCast, refSeal_is k _ (bytes_take hl _) (by omega) (by omega), Option.bind_some]
    have hs := strOf_eq (l.take (l.length - 4) ++ tail4 (sum (l.take (l.length - 4)))) l (bytes_append (bytes_take hl _) (bytes_tail4 _)) hl
    by_cases he : l.take (l.length - 4) ++ tail4 (sum (l.take (l.length - 4))) = l
    · rw [if_pos (hs.2 he), if_pos he, Option.bind_some, if_pos (by simp; omega)]
      rfl
    · rw [if_neg (fun h => he (hs.1 h)), if_neg he]
def texted (l : List Int) : ByteArray × Int × Bool := match dec 5 l 0 0 1 with
  | some (n, u) => if (l.length : Int) - u < n then (⟨#[]⟩, 0, false) else (strOfNums ((l.take (u + n).toNat).drop u.toNat), u + n, true)
  | none => (⟨#[]⟩, 0, false)
theorem ReadText_is (l : List Int) (hl : Bytes l) (hm : l.length ≤ 140737488351232) : bytes_ReadText.f l = some ((texted l).1, (texted l).2.1, if (texted l).2.2 = true then 0 else 16) := by
  unfold bytes_ReadText.f texted
  rw [num_is l hl]
  cases hd : dec 5 l 0 0 1 with
  | none => rfl
  | some q =>
    obtain ⟨n, u⟩ := q
    have := dec_le 5 l 0 0 1 n u hd (fun c hc => (hl c hc).1) (by decide) (by decide)
    have h1 : wrap64 ((l.length : Int) - u) = (l.length : Int) - u := by unfold wrap64; omega
    have h2 : wrap64 (u + n) = u + n := by unfold wrap64; omega
    simp only [h1, h2]
    by_cases hlt : (l.length : Int) - u < n
    · rw [if_pos hlt]; simp [hlt]
    · rw [if_neg hlt, if_pos (by omega)]; simp [hlt]
theorem refReadText_is (k : Nat) (l : List Int) (hl : Bytes l) (hm : l.length ≤ 140737488351232) (hk : 14 ≤ k) : topiaristref20_ReadText.f k l = some (0, (texted l).2.1, (texted l).1, (texted l).2.2) := by
  unfold topiaristref20_ReadText.f texted
  rw [refReadNum_is k l hl hm hk, Option.bind_some]
  cases hd : dec 5 l 0 0 1 with
  | none => rfl
  | some q =>
    obtain ⟨n, u⟩ := q
    have := dec_le 5 l 0 0 1 n u hd (fun c hc => (hl c hc).1) (by decide) (by decide)
    have h1 : wrap64 ((l.length : Int) - u) = (l.length : Int) - u := by unfold wrap64; omega
    have h2 : wrap64 (u + n) = u + n := by unfold wrap64; omega
    simp only [got, if_true, h1, h2]
    by_cases hlt : (l.length : Int) - u < n
    · rw [if_pos (by omega), if_pos hlt]
    · rw [if_neg (by omega), if_neg hlt, if_pos (by omega), if_pos (by omega), if_pos (by omega)]
end Go.Proofs.Ytncgbkmhigdflaa.Pure
