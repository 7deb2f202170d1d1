/- What BytesSums says of whole numbers, of any bytes, any place and any byte. -/
import Derived.Test.YtncgbkmhigdflaaPureBytesNums
import Derived.Test.YtncgbkmhigdflaaPx6
set_option linter.unusedVariables false
set_option linter.unusedSimpArgs false
namespace Go.Proofs.Ytncgbkmhigdflaa.Pure
open Go.RowKit Go.Proofs.Ytncgbkmhigdflaa.P Go.Proofs.YtncgbkmhigdflaaW.PrintWords Go.Proofs.YtncgbkmhigdflaaW.PrintLast Go.Proofs.Ytncgbkmhigdflaa.Base Go.Proofs.Ytncgbkmhigdflaa.BM
theorem xor_u8 (a b : Nat) (ha : a < 256) (hb : b < 256) : Go.bits .xor .u8 (a : Int) (b : Int) = ((a ^^^ b : Nat) : Int) := by
  have hx : a ^^^ b < 2 ^ 8 := Nat.xor_lt_two_pow (by omega) (by omega)
  have h1 : (BitVec.ofInt 8 (a : Int)).toNat = a := by rw [BitVec.ofInt_natCast, BitVec.toNat_ofNat]; exact Nat.mod_eq_of_lt (by omega)
  have h2 : (BitVec.ofInt 8 (b : Int)).toNat = b := by rw [BitVec.ofInt_natCast, BitVec.toNat_ofNat]; exact Nat.mod_eq_of_lt (by omega)
  show IntKind.u8.wrap ((BitVec.ofInt 8 (a : Int) ^^^ BitVec.ofInt 8 (b : Int)).toNat : Int) = _
  rw [BitVec.toNat_xor, h1, h2, IntKind.wrap_u8]
  omega
theorem xor_same (c b : Int) (h0 : 0 ≤ c) (h1 : c ≤ 255) (h2 : 0 ≤ b) (h3 : b ≤ 255) : (0 ≤ Go.bits .xor .u8 c b ∧ Go.bits .xor .u8 c b ≤ 255) ∧ (Go.bits .xor .u8 c b = c ↔ b = 0) := by
  obtain ⟨a, rfl⟩ := Int.eq_ofNat_of_zero_le h0
  obtain ⟨d, rfl⟩ := Int.eq_ofNat_of_zero_le h2
  rw [xor_u8 a d (by omega) (by omega)]
  have hx : a ^^^ d < 2 ^ 8 := Nat.xor_lt_two_pow (by omega) (by omega)
  refine ⟨by omega, ?_⟩
  constructor
  · intro h
    have e : a ^^^ d = a := by exact_mod_cast h
    have : a ^^^ (a ^^^ d) = a ^^^ a := by rw [e]
    rw [← Nat.xor_assoc, Nat.xor_self, Nat.zero_xor] at this
    omega
  · intro h
    have : d = 0 := by omega
    subst this
    simp
theorem sums_l1 (l : List Int) (hl : Bytes l) (s : Int) (hs : s = sum l) (d : Nat) : ∀ (k i : Nat) (t : Int), l.length - i = d → i ≤ l.length → d + 101 < k → l.length ≤ 1000 → 0 ≤ t → t < 4294967296 → sumFrom t (l.drop i) % 4294967296 = s →
    topiaristlaw20_BytesSums.l1 k l s t (i : Int) = some true := by
  induction d with
  | zero =>
    intro k i t hd hi hk hm h0 h1 ht
    obtain ⟨k, rfl⟩ : ∃ m, k = m + 1 := ⟨k - 1, by omega⟩
    rw [List.drop_of_length_le (by omega)] at ht
    simp only [sumFrom] at ht
    simp only [topiaristlaw20_BytesSums.l1]
    rw [if_neg (by omega), if_pos (by omega), wakes_at k (by omega)]
    rfl
  | succ d ih =>
    intro k i t hd hi hk hm h0 h1 ht
    obtain ⟨k, rfl⟩ : ∃ m, k = m + 1 := ⟨k - 1, by omega⟩
    have hlt : i < l.length := by omega
    have hc := hl l[i] (List.getElem_mem hlt)
    rw [List.drop_eq_getElem_cons hlt] at ht
    simp only [sumFrom] at ht
    simp only [topiaristlaw20_BytesSums.l1]
    rw [if_pos (by omega), if_pos (by omega), rd_get l i hlt, show wrap64 ((i : Int) + 1) = ((i + 1 : Nat) : Int) from by unfold wrap64; omega]
    refine ih k (i + 1) _ (by omega) (by omega) (by omega) hm (by omega) (by omega) ?_
    rw [← ht]
    exact sumFrom_mod _ _ _ (by omega)
theorem shr8 (s : Int) (i : Nat) (hi : i < 4) : shr .u32 s (IntKind.u64.wrap (wrap64 (8 * (i : Int)))) % 256 = (tail4 s).getD i 0 := by
  have h4 : i = 0 ∨ i = 1 ∨ i = 2 ∨ i = 3 := by omega
  rcases h4 with rfl | rfl | rfl | rfl
  · have e : IntKind.u64.wrap (wrap64 (8 * ((0 : Nat) : Int))) = 0 := by rw [IntKind.wrap_u64]; unfold wrap64; decide
    rw [e]; simp [shr, tail4]
  · have e : IntKind.u64.wrap (wrap64 (8 * ((1 : Nat) : Int))) = 8 := by rw [IntKind.wrap_u64]; unfold wrap64; decide
    rw [e]; simp [shr, tail4, IntKind.bits]
  · have e : IntKind.u64.wrap (wrap64 (8 * ((2 : Nat) : Int))) = 16 := by rw [IntKind.wrap_u64]; unfold wrap64; decide
    rw [e]; simp [shr, tail4, IntKind.bits]
  · have e : IntKind.u64.wrap (wrap64 (8 * ((3 : Nat) : Int))) = 24 := by rw [IntKind.wrap_u64]; unfold wrap64; decide
    rw [e]; simp [shr, tail4, IntKind.bits]
theorem sums_l0 (l : List Int) (hl : Bytes l) (hm : l.length ≤ 1000) (d : Nat) : ∀ (k i : Nat), 4 - i = d → i ≤ 4 → d + l.length + 110 < k → topiaristlaw20_BytesSums.l0 k l (l ++ tail4 (sum l)) (sum l) (i : Int) = some true := by
  have hr := sum_range l
  induction d with
  | zero =>
    intro k i hd hi hk
    obtain ⟨k, rfl⟩ : ∃ m, k = m + 1 := ⟨k - 1, by omega⟩
    simp only [topiaristlaw20_BytesSums.l0]
    rw [if_neg (by omega)]
    exact sums_l1 l hl (sum l) rfl l.length k 0 7 (by omega) (by omega) (by omega) hm (by omega) (by omega) rfl
  | succ d ih =>
    intro k i hd hi hk
    obtain ⟨k, rfl⟩ : ∃ m, k = m + 1 := ⟨k - 1, by omega⟩
    simp only [topiaristlaw20_BytesSums.l0]
    have hw : wrap64 ((l.length : Int) + (i : Int)) = ((l.length + i : Nat) : Int) := by unfold wrap64; omega
    have h4 : (l ++ tail4 (sum l)).length = l.length + 4 := by simp [tail4]
    have hw2 : 0 ≤ IntKind.u64.wrap (wrap64 (8 * (i : Int))) := by rw [IntKind.wrap_u64]; omega
    rw [if_pos (by omega), hw, if_pos (by omega), if_pos (by omega), if_pos hw2, shr8 _ i (by omega), rd_get _ _ (by omega)]
    have hg : (l ++ tail4 (sum l))[l.length + i]'(by omega) = (tail4 (sum l)).getD i 0 := by
      rw [List.getElem_append_right (by omega), List.getD_eq_getElem?_getD, List.getElem?_eq_getElem (by simp [tail4]; omega)]
      simp
    rw [if_pos hg, show wrap64 ((i : Int) + 1) = ((i + 1 : Nat) : Int) from by unfold wrap64; omega]
    exact ih k (i + 1) (by omega) (by omega) (by omega)
theorem BytesSums : topiaristlaw20_BytesSums.Pure := by
  intro l a1 a2 _ _ hl w1 w2
  have hb : Bytes l := fun c hc => by have := hl c hc; simp [Lit.wf, IntKind.min, IntKind.max, IntKind.bits, IntKind.signed] at this; omega
  have h2 : 0 ≤ a2 ∧ a2 ≤ 255 := by simp [Lit.wf, IntKind.min, IntKind.max, IntKind.bits, IntKind.signed] at w2; omega
  have h1 : 0 ≤ a1 ∧ a1 ≤ 65535 := by simp [Lit.wf, IntKind.min, IntKind.max, IntKind.bits, IntKind.signed] at w1; omega
  refine ⟨3000, ?_⟩
  unfold topiaristlaw20_BytesSums.f
  have hj : topiaristlaw20_BytesSums.j0 3000 l a1 a2 true = some true := by
    rw [topiaristlaw20_BytesSums.j0, if_pos rfl, wakes_at _ (by omega)]
    rfl
  by_cases hbig : (l.length : Int) > 1000
  · rw [if_pos hbig, hj]
  · rw [if_neg hbig]
    by_cases hz : l.length = 0
    · rw [show ((l.length : Int) == 0) = true from by simp [hz], hj]
    · rw [show ((l.length : Int) == 0) = false from beq_eq_false_iff_ne.2 (by omega)]
      rw [topiaristlaw20_BytesSums.j0, if_neg (by simp), Option.bind_some]
      simp only [List.nil_append, List.length_nil]
      have hw : wrap64 a1 = a1 := by unfold wrap64; omega
      obtain ⟨i, hi⟩ : ∃ i : Nat, Int.tmod a1 (l.length : Int) = (i : Int) ∧ i < l.length := by
        have e := Int.tmod_eq_emod_of_nonneg (b := (l.length : Int)) h1.1
        have e1 := Int.emod_nonneg a1 (show (l.length : Int) ≠ 0 by omega)
        have e2 := Int.emod_lt_of_pos a1 (show (0 : Int) < (l.length : Int) by omega)
        rw [e]
        exact ⟨(a1 % (l.length : Int)).toNat, by omega, by omega⟩
      rw [if_pos (by omega), Option.bind_some, hw, hi.1]
      rw [if_neg (by omega), if_pos (by omega), if_pos (by omega), Int.toNat_natCast, rd_get l i hi.2]
      have hc := hb l[i] (List.getElem_mem hi.2)
      have hx := xor_same l[i] a2 hc.1 hc.2 h2.1 h2.2
      generalize hy : Go.bits .xor .u8 l[i] a2 = y at hx
      have hset : Bytes (l.set i y) := fun c hc => by
        rcases List.mem_or_eq_of_mem_set hc with h | rfl
        · exact hb c h
        · exact hx.1
      rw [Sum_is 2999 l hb (by omega) (by omega), Option.bind_some, Sum_is 2999 _ hset (by simp; omega) (by simp; omega), Option.bind_some]
      have hsum : (sum l = sum (l.set i y)) ↔ a2 = 0 := by
        have e1 : l = l.take i ++ l[i] :: l.drop (i + 1) := by rw [← List.drop_eq_getElem_cons hi.2, List.take_append_drop]
        have e2 : l.set i y = l.take i ++ y :: l.drop (i + 1) := by rw [List.set_eq_take_append_cons_drop, if_pos hi.2]
        have e3 : sum l = sumFrom 7 (l.take i ++ l[i] :: l.drop (i + 1)) % 4294967296 := by rw [← e1]; rfl
        have e4 : sum (l.set i y) = sumFrom 7 (l.take i ++ y :: l.drop (i + 1)) % 4294967296 := by rw [← e2]; rfl
        rw [e3, e4, sum_eq_iff 7 _ _ l[i] y hc hx.1, ← hx.2]
        exact eq_comm
      rw [if_neg, Seal_is 2999 l hb (by omega) (by omega), Option.bind_some]
      · have h4 : (l ++ tail4 (sum l)).length = l.length + 4 := by simp [tail4]
        rw [h4, if_pos (by unfold wrap64; omega), Option.bind_some]
        exact sums_l0 l hb (by omega) 4 2999 0 rfl (by omega) (by omega)
      · intro h
        simp only [bne_iff_ne, ne_eq] at h
        apply h
        rw [Bool.eq_iff_iff]
        simp only [beq_iff_eq]
        exact hsum
end Go.Proofs.Ytncgbkmhigdflaa.Pure
