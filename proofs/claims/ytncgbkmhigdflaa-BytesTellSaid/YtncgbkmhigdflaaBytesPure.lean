/- What bytes' functions tell, in plain words. -/
import Derived.Test.YtncgbkmhigdflaaBytesMath
import Derived.Test.YtncgbkmhigdflaaBase
import Derived.Test.YtncgbkmhigdflaaPx8
import Derived.Test.YtncgbkmhigdflaaPx21
import Derived.Test.YtncgbkmhigdflaaPx15
import Derived.Test.YtncgbkmhigdflaaPx14
import Derived.Laws.BitsLemmas
import Derived.Laws.Bits64
set_option linter.unusedVariables false
set_option linter.unusedSimpArgs false
namespace Go.Proofs.Ytncgbkmhigdflaa.Pure
open Go.RowKit Go.Proofs.Ytncgbkmhigdflaa.P Go.Proofs.YtncgbkmhigdflaaW.PrintWords Go.Proofs.YtncgbkmhigdflaaW.PrintLast Go.Proofs.Ytncgbkmhigdflaa.Base Go.Proofs.Ytncgbkmhigdflaa.BM
theorem wraps_i64 (n : Int) (h₀ : 0 ≤ n) (h₁ : n < 2 ^ 63) : IntKind.i64.wrap n = n := by rw [IntKind.wrap_i64]; omega
theorem and127 (x : Int) (h0 : 0 ≤ x) (h1 : x < 9223372036854775808) : Go.bits .and .i64 x 127 = x % 128 := by
  have := bits_mask .i64 63 (by decide) wraps_i64 7 (by decide) x h0 (by omega)
  simpa using this
theorem or_comm64 (x y : Int) (hx : 0 ≤ x) (hx1 : x < 9223372036854775808) (hy : 0 ≤ y) (hy1 : y < 9223372036854775808) : Go.bits .or .i64 x y = Go.bits .or .i64 y x := by
  obtain ⟨a, rfl⟩ := Int.eq_ofNat_of_zero_le hx
  obtain ⟨b, rfl⟩ := Int.eq_ofNat_of_zero_le hy
  have h1 := (bits_nat .i64 63 (by decide) wraps_i64 a b (by omega) (by omega)).2
  have h2 := (bits_nat .i64 63 (by decide) wraps_i64 b a (by omega) (by omega)).2
  rw [h1, h2, Nat.or_comm]
theorem or128 (y : Int) (h0 : 0 ≤ y) (h1 : y < 128) : Go.bits .or .i64 y 128 = y + 128 := by
  rw [or_comm64 y 128 h0 (by omega) (by omega) (by omega)]
  rw [bits_join .i64 63 (by decide) wraps_i64 7 128 y (by decide) (by decide) (by decide) h0 (by omega) (by omega)]
  omega
theorem and128 (c : Int) (h0 : 0 ≤ c) (h1 : c ≤ 255) : (Go.bits .and .u8 c 128 = 0) ↔ c < 128 := by
  have h : ∀ n : Fin 256, (Go.bits .and .u8 ((n.val : Nat) : Int) 128 = 0) ↔ ((n.val : Nat) : Int) < 128 := by decide +kernel
  have := h ⟨c.toNat, by omega⟩
  simp only [Int.toNat_of_nonneg h0] at this
  exact this
theorem and127u (c : Int) (h0 : 0 ≤ c) (h1 : c ≤ 255) : Go.bits .and .u8 c 127 = c % 128 := by
  have := bits_mask .u8 8 (by decide) wraps_u8 7 (by decide) c h0 (by omega)
  simpa using this
/-- A number behind bytes. -/
theorem num_enc (j : Nat) : ∀ (k : Nat) (x : List Int) (n : Int), j < k → 0 ≤ n → n < 128 ^ (j + 1) → n ≤ 2147483647 → x.length + j < 140737488355328 → bytes_Num.l0 k x n = some (x ++ enc j n) := by
  induction j with
  | zero =>
    intro k x n hk h0 h1 h2 hx
    obtain ⟨k, rfl⟩ : ∃ m, k = m + 1 := ⟨k - 1, by omega⟩
    simp only [bytes_Num.l0, enc]
    rw [if_neg (by omega), if_pos (by omega)]
    congr 3
    omega
  | succ j ih =>
    intro k x n hk h0 h1 h2 hx
    obtain ⟨k, rfl⟩ : ∃ m, k = m + 1 := ⟨k - 1, by omega⟩
    simp only [bytes_Num.l0, enc]
    by_cases h : n < 128
    · rw [if_neg (by omega), if_pos (by omega), if_pos h]
      congr 3
      omega
    · rw [if_pos (by omega), if_pos (by omega), if_neg h, and127 n h0 (by omega), or128 _ (by omega) (by omega)]
      rw [ih k _ _ (by omega) (by omega) (by rw [Int.pow_succ] at h1; omega) (by omega) (by simp; omega)]
      rw [show (n % 128 + 128) % 256 = n % 128 + 128 from by omega]
      simp
def cut (n : Int) : Int := mx 0 (mn n 2147483647)
theorem cut_le (n : Int) : 0 ≤ cut n ∧ cut n ≤ 2147483647 := by unfold cut mx mn; split <;> split <;> omega
theorem cut_id (n : Int) (h0 : 0 ≤ n) (h1 : n ≤ 2147483647) : cut n = n := by unfold cut mx mn; split <;> split <;> omega
theorem Num_is (k : Nat) (l : List Int) (n : Int) (hk : 4 < k) (hl : l.length + 4 < 140737488355328) : bytes_Num.f k l n = some (l ++ enc 4 (cut n)) := by
  unfold bytes_Num.f slices_Clone_byte_byte.f
  have := cut_le n
  rw [if_pos (by omega), Option.bind_some]
  exact num_enc 4 k l (cut n) hk this.1 (by omega) this.2 hl
def Bytes (l : List Int) : Prop := ∀ c ∈ l, 0 ≤ c ∧ c ≤ 255
theorem rd_get (l : List Int) (i : Nat) (h : i < l.length) : rd l (i : Int) = l[i] := by
  unfold rd
  rw [Int.toNat_natCast, List.getD_eq_getElem?_getD, List.getElem?_eq_getElem h]
  rfl
theorem pow7 (i : Nat) : (2 : Int) ^ (7 * i) = 128 ^ i := by rw [Int.pow_mul]; rfl
/-- What the code gathers is the number. -/
theorem num_dec (l : List Int) (hl : Bytes l) (d : Nat) : ∀ (i : Nat) (acc : Int), 5 - i = d → i ≤ 5 → 0 ≤ acc → acc < 128 ^ i → numGo l (d + 1) i acc = dec d (l.drop i) i acc (128 ^ i) := by
  induction d with
  | zero =>
    intro i acc hd hi h0 h1
    have : i = 5 := by omega
    subst this
    simp only [numGo, dec]
    rw [if_neg (by omega)]
  | succ d ih =>
    intro i acc hd hi h0 h1
    rw [numGo]
    by_cases hlt : i < l.length
    · rw [if_pos (by omega), List.drop_eq_getElem_cons hlt, rd_get l i hlt]
      have hc := hl l[i] (List.getElem_mem hlt)
      generalize l[i] = c at hc
      have hp : (128 : Int) ^ i ≤ 268435456 := by
        have h4 : i = 0 ∨ i = 1 ∨ i = 2 ∨ i = 3 ∨ i = 4 := by omega
        rcases h4 with rfl | rfl | rfl | rfl | rfl <;> decide
      have hp0 : (0 : Int) < 128 ^ i := Int.pow_pos (by decide)
      have hm0 : 0 ≤ c % 128 := by omega
      have hm1 : c % 128 ≤ 127 := by omega
      have hmul0 : 0 ≤ c % 128 * 128 ^ i := Int.mul_nonneg hm0 (by omega)
      have hmul1 : c % 128 * 128 ^ i ≤ 127 * 128 ^ i := Int.mul_le_mul_of_nonneg_right hm1 (by omega)
      have hwr : wrap64 (wrap64 (Go.bits .and .u8 c 127) * 2 ^ (7 * i)) = c % 128 * 128 ^ i := by
        rw [and127u c hc.1 hc.2, pow7, show wrap64 (c % 128) = c % 128 from by unfold wrap64; omega]
        unfold wrap64
        omega
      have hor : Go.bits .or .i64 acc (c % 128 * 128 ^ i) = acc + c % 128 * 128 ^ i := by
        rw [or_comm64 acc _ h0 (by omega) hmul0 (by omega)]
        rw [bits_join .i64 63 (by decide) wraps_i64 (7 * i) (c % 128 * 128 ^ i) acc hmul0 (by rw [pow7]; exact Int.mul_emod_left _ _) (by omega) h0 (by rw [pow7]; exact h1) (by omega)]
        omega
      rw [hwr, hor]
      simp only [dec]
      by_cases h128 : c < 128
      · rw [if_pos ((and128 c hc.1 hc.2).2 h128), if_pos h128]
        by_cases hbig : acc + c % 128 * 128 ^ i > 2147483647
        · rw [if_pos hbig, if_pos (Or.inl hbig)]
        · rw [if_neg hbig]
          by_cases hz : c = 0 ∧ 0 < i
          · rw [if_pos hz, if_pos (Or.inr ⟨hz.2, hz.1⟩)]
          · rw [if_neg hz, if_neg (by omega)]
      · rw [if_neg (fun h => h128 ((and128 c hc.1 hc.2).1 h)), if_neg h128]
        rw [ih (i + 1) _ (by omega) (by omega) (by omega) (by rw [Int.pow_succ]; omega), Int.pow_succ]
    · rw [if_neg (by omega), List.drop_of_length_le (by omega)]
      rfl
theorem num_is (l : List Int) (hl : Bytes l) : bytes_num.f l = dec 5 l 0 0 1 := by
  unfold bytes_num.f
  have := num_dec l hl 5 0 0 rfl (by decide) (by decide) (by decide)
  simpa using this
theorem ReadNum_is (l : List Int) (hl : Bytes l) : bytes_ReadNum.f l = some (match dec 5 l 0 0 1 with | some (n, u) => (n, u, 0) | none => (0, 0, 16)) := by
  unfold bytes_ReadNum.f
  rw [num_is l hl]
  cases dec 5 l 0 0 1 <;> rfl
/-- The sum, cut as it goes. -/
theorem sumFrom_mod (l : List Int) : ∀ s t, s % 4294967296 = t % 4294967296 → sumFrom s l % 4294967296 = sumFrom t l % 4294967296 := by
  induction l with
  | nil => intro s t h; exact h
  | cons c l ih => intro s t h; simp only [sumFrom]; exact ih _ _ (by omega)
theorem sum_loop (l : List Int) (hl : Bytes l) (d : Nat) : ∀ (k i : Nat) (s : Int), l.length - i = d → d < k → i ≤ l.length → l.length ≤ 140737488355328 → 0 ≤ s → s < 4294967296 → bytes_Sum.l0 k s l (l.length : Int) (i : Int) = some (sumFrom s (l.drop i) % 4294967296) := by
  induction d with
  | zero =>
    intro k i s hd hk hi hm h0 h1
    obtain ⟨k, rfl⟩ : ∃ m, k = m + 1 := ⟨k - 1, by omega⟩
    simp only [bytes_Sum.l0]
    rw [if_neg (by omega), List.drop_of_length_le (by omega)]
    simp only [sumFrom]
    congr 1
    omega
  | succ d ih =>
    intro k i s hd hk hi hm h0 h1
    obtain ⟨k, rfl⟩ : ∃ m, k = m + 1 := ⟨k - 1, by omega⟩
    have hlt : i < l.length := by omega
    have hc := hl l[i] (List.getElem_mem hlt)
    simp only [bytes_Sum.l0]
    rw [if_pos (by omega), if_pos (by omega), if_pos (by omega), rd_get l i hlt, show wrap64 ((i : Int) + 1) = ((i + 1 : Nat) : Int) from by unfold wrap64; omega]
    rw [ih k (i + 1) _ (by omega) (by omega) (by omega) hm (by omega) (by omega), List.drop_eq_getElem_cons hlt]
    simp only [sumFrom]
    congr 1
    exact sumFrom_mod _ _ _ (by omega)
def sum (l : List Int) : Int := sumFrom 7 l % 4294967296
theorem Sum_is (k : Nat) (l : List Int) (hl : Bytes l) (hk : l.length < k) (hm : l.length ≤ 140737488355328) : bytes_Sum.f k l = some (sum l) := by
  have := sum_loop l hl l.length k 0 7 (by omega) hk (by omega) hm (by decide) (by decide)
  unfold bytes_Sum.f
  simpa [sum] using this
theorem sum_range (l : List Int) : 0 ≤ sum l ∧ sum l < 4294967296 := by unfold sum; omega
def tail4 (s : Int) : List Int := [s % 256, (s / 256) % 256, (s / 65536) % 256, (s / 16777216) % 256]
theorem Seal_is (k : Nat) (l : List Int) (hl : Bytes l) (hk : l.length < k) (hm : l.length + 4 < 140737488355328) : bytes_Seal.f k l = some (l ++ tail4 (sum l)) := by
  unfold bytes_Seal.f slices_Clone_byte_byte.f
  rw [Sum_is k l hl hk (by omega), Option.bind_some, if_pos (by omega), Option.bind_some, Option.bind_some, if_pos (by simp; omega)]
  rfl
theorem bytes_append {l m : List Int} (h : Bytes l) (h' : Bytes m) : Bytes (l ++ m) := fun c hc => by
  rcases List.mem_append.1 hc with hc | hc
  · exact h c hc
  · exact h' c hc
theorem bytes_enc (n : Int) : Bytes (enc 4 (cut n)) := by
  have := cut_le n
  exact enc_bytes 4 _ this.1 (by omega)
theorem strOf_eq (l m : List Int) (hl : Bytes l) (hm : Bytes m) : ((strOfNums l).toList = (strOfNums m).toList) ↔ l = m := by
  constructor
  · intro h
    have h2 := toList_inj h
    have h3 : bytesOf (strOfNums l) = bytesOf (strOfNums m) := by rw [h2]
    have e : ∀ x : List Int, Bytes x → bytesOf (strOfNums x) = x := by
      intro x hx
      unfold bytesOf strOfNums
      simp only [List.map_map]
      conv => rhs; rw [← List.map_id x]
      apply List.map_congr_left
      intro c hc
      have := hx c hc
      simp
      omega
    rw [e l hl, e m hm] at h3
    exact h3
  · rintro rfl; rfl
theorem Bytes_is (l m : List Int) (hl : Bytes l) (hm : Bytes m) : topiaristkeep_Bytes.f l m = some (decide (l = m)) := by
  unfold topiaristkeep_Bytes.f
  congr 1
  rw [Bool.eq_iff_iff]
  simp only [beq_iff_eq, decide_eq_true_eq]
  exact strOf_eq l m hl hm
end Go.Proofs.Ytncgbkmhigdflaa.Pure
