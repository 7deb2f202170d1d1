/- What BytesNums says of whole numbers, of any two numbers. -/
import Derived.Test.YtncgbkmhigdflaaBytesPure
import Derived.Test.YtncgbkmhigdflaaPx5
set_option linter.unusedVariables false
set_option linter.unusedSimpArgs false
namespace Go.Proofs.Ytncgbkmhigdflaa.Pure
open Go.RowKit Go.Proofs.Ytncgbkmhigdflaa.P Go.Proofs.YtncgbkmhigdflaaW.PrintWords Go.Proofs.YtncgbkmhigdflaaW.PrintLast Go.Proofs.Ytncgbkmhigdflaa.Base Go.Proofs.Ytncgbkmhigdflaa.BM
set_option maxRecDepth 100000 in
theorem wakes_hundred : topiaristlaw20_wakes.f 100 = some true := by decide +kernel
theorem wakes_at (k : Nat) (hk : 100 ≤ k) : topiaristlaw20_wakes.f k = some true := at_rounds topiaristlaw20_wakes.mono hk wakes_hundred
def numsPost (k : Nat) (a1 : Int) (x y : List Int) (c z : Int) : Option Bool :=
  if (x.length : Int) = z then (if (y.length : Int) < 1 then topiaristlaw20_BytesNums.j1 k a1 x y c z true else topiaristlaw20_BytesNums.j1 k a1 x y c z (decide ((y.length : Int) > 5))) else topiaristlaw20_BytesNums.j1 k a1 x y c z true
theorem nums_l0 (a1 : Int) (x y : List Int) (c : Int) (j : Nat) : ∀ (k : Nat) (v x8 : Int), 0 ≤ v → v < 128 ^ (j + 1) → v ≤ 2147483647 → j < k → 0 ≤ x8 → x8 + j ≤ 1000 → ∃ k', k ≤ k' + (j + 1) ∧
    topiaristlaw20_BytesNums.l0 k a1 x y c x8 v = numsPost k' a1 x y c (x8 + ((enc j v).length : Int) - 1) := by
  induction j with
  | zero =>
    intro k v x8 h0 h1 h2 hk hx hx1
    obtain ⟨k, rfl⟩ : ∃ m, k = m + 1 := ⟨k - 1, by omega⟩
    refine ⟨k, by omega, ?_⟩
    simp only [topiaristlaw20_BytesNums.l0, enc, List.length_singleton]
    rw [if_neg (by omega), show x8 + ((1 : Nat) : Int) - 1 = x8 from by omega]
    rfl
  | succ j ih =>
    intro k v x8 h0 h1 h2 hk hx hx1
    obtain ⟨k, rfl⟩ : ∃ m, k = m + 1 := ⟨k - 1, by omega⟩
    by_cases h : v < 128
    · refine ⟨k, by omega, ?_⟩
      simp only [topiaristlaw20_BytesNums.l0, enc]
      rw [if_neg (by omega), if_pos h, List.length_singleton, show x8 + ((1 : Nat) : Int) - 1 = x8 from by omega]
      rfl
    · simp only [topiaristlaw20_BytesNums.l0, enc]
      rw [if_pos (by omega), if_neg h]
      have hdiv : wrap64 (Int.tdiv v 128) = v / 128 := by rw [Int.tdiv_eq_ediv_of_nonneg h0]; unfold wrap64; omega
      rw [hdiv, show wrap64 (x8 + 1) = x8 + 1 from by unfold wrap64; omega]
      obtain ⟨k', hk', he⟩ := ih k (v / 128) (x8 + 1) (by omega) (by rw [Int.pow_succ] at h1; omega) (by omega) (by omega) (by omega) (by omega)
      refine ⟨k', by omega, ?_⟩
      rw [he, List.length_cons, show x8 + 1 + ((enc j (v / 128)).length : Int) - 1 = x8 + (((enc j (v / 128)).length + 1 : Nat) : Int) - 1 from by omega]
theorem nums_l1 (a1 : Int) (x y : List Int) (c n : Int) (hn : n = cut c) (hx : x = enc 4 n) (hyb : Bytes y) (hc : (x = y) = (n = cut a1)) (d : Nat) : ∀ (k i : Nat), x.length - i = d → i ≤ x.length → d + 101 < k →
    topiaristlaw20_BytesNums.l1 k a1 x y n ((x.length : Nat) : Int) (i : Int) = some true := by
  have hcl := cut_le c
  have hlen := enc_len 4 n
  rw [← hx] at hlen
  have hxb : Bytes x := by rw [hx, hn]; exact bytes_enc c
  induction d with
  | zero =>
    intro k i hd hi hk
    obtain ⟨k, rfl⟩ : ∃ m, k = m + 1 := ⟨k - 1, by omega⟩
    simp only [topiaristlaw20_BytesNums.l1]
    rw [if_neg (by omega)]
    simp only [Option.bind_some, List.nil_append, List.length_nil]
    rw [if_pos (by omega), if_pos (by omega)]
    have hb : Bytes (x ++ [255]) := bytes_append hxb (fun c hc => by simp at hc; omega)
    have hdec := dec_enc 4 n 0 1 0 [255] (by omega) (by omega) (by omega) (by omega) (Or.inl rfl)
    rw [ReadNum_is _ hb, Option.bind_some]
    rw [← hx] at hdec
    rw [hdec]
    simp only [Int.zero_add, Int.mul_one, Int.natCast_zero]
    rw [if_pos trivial, if_pos trivial, if_pos trivial, Bytes_is x y hxb hyb, Option.bind_some]
    have hh : topiaristlaw20_held.f a1 = some (cut a1) := rfl
    rw [hh, Option.bind_some, if_pos, wakes_at k (by omega)]
    · rfl
    · simp only [beq_iff_eq]
      rw [Bool.eq_iff_iff]
      simp only [decide_eq_true_eq, beq_iff_eq]
      exact iff_of_eq hc
  | succ d ih =>
    intro k i hd hi hk
    obtain ⟨k, rfl⟩ : ∃ m, k = m + 1 := ⟨k - 1, by omega⟩
    have hlt : i < x.length := by omega
    have hmore := enc_more 4 n (by omega) (by omega) i (by rw [← hx]; exact hlt)
    simp only [← hx] at hmore
    simp only [topiaristlaw20_BytesNums.l1]
    rw [if_pos (by omega), if_pos (by omega), rd_get x i hlt, show wrap64 ((i : Int) + 1) = ((i + 1 : Nat) : Int) from by unfold wrap64; omega]
    rw [if_neg, ih k (i + 1) (by omega) (by omega) (by omega)]
    intro h
    simp only [bne_iff_ne, ne_eq, decide_eq_decide] at h
    exact h (by omega)
theorem BytesNums : topiaristlaw20_BytesNums.Pure := by
  intro a0 a1 _ _
  refine ⟨300, ?_⟩
  unfold topiaristlaw20_BytesNums.f
  have h0 := cut_le a0
  have h1 := cut_le a1
  have hh : topiaristlaw20_held.f a0 = some (cut a0) := rfl
  rw [Num_is 300 [] a0 (by omega) (by decide), Num_is 300 [] a1 (by omega) (by decide), Option.bind_some, Option.bind_some, hh, Option.bind_some]
  simp only [List.nil_append]
  obtain ⟨k', hk', he⟩ := nums_l0 a1 (enc 4 (cut a0)) (enc 4 (cut a1)) (cut a0) 4 300 (cut a0) 1 h0.1 (by omega) h0.2 (by omega) (by omega) (by omega)
  have hl := enc_len 4 (cut a0)
  have hl1 := enc_len 4 (cut a1)
  rw [he]
  unfold numsPost
  rw [if_pos (by omega), if_neg (by omega), show decide (((enc 4 (cut a1)).length : Int) > 5) = false from decide_eq_false (by omega)]
  obtain ⟨k', rfl⟩ : ∃ m, k' = m + 1 := ⟨k' - 1, by omega⟩
  simp only [topiaristlaw20_BytesNums.j1]
  rw [if_neg (by simp), show (1 : Int) + ((enc 4 (cut a0)).length : Int) - 1 = ((enc 4 (cut a0)).length : Int) from by omega]
  refine nums_l1 a1 _ _ a0 (cut a0) rfl rfl (bytes_enc a1) ?_ _ k' 0 rfl (by omega) (by omega)
  apply propext
  constructor
  · intro h; exact enc_inj h0.1 h0.2 h1.1 h1.2 h
  · intro h; rw [h]
end Go.Proofs.Ytncgbkmhigdflaa.Pure
