/- LexPlaces answers true at every text of any size: each token stands in the text where it says, between them blanks and notes. Conditions: none. -/
import Derived.Test.YtfbncmcibfkfiaaPx4
import Derived.Test.YtfbncmcibfkfiaaLexAfter
set_option linter.unusedVariables false
set_option linter.unusedSimpArgs false
namespace Go.Proofs.Ytfbncmcibfkfiaa.Pure
open Go.RowKit Go.Proofs.Ytfbncmcibfkfiaa.P Go.Proofs.YtfbncmcibfkfiaaW.PrintWords Go.Proofs.YtfbncmcibfkfiaaW.PrintLast Go.Proofs.Ytfbncmcibfkfiaa.Base

theorem rd_tok (l : List (Int × ByteArray × Int)) (i : Nat) (q : Int × ByteArray × Int) (h : l[i]? = some q) : rd_T36 (l.map tok) (i : Int) = tok q := by
  unfold rd_T36
  rw [Int.toNat_natCast, List.getD_eq_getElem?_getD, List.getElem?_map, h]
  rfl
/-- Where a scan between tokens ends, all is well. -/
def PEnds (s : ByteArray) (L : List (Int × ByteArray × Int)) (i zz : Nat) : Prop := Evt fun k => topiaristlaw01_LexPlaces.l1 k s (L.map tok) (zz : Int) (i : Int) (zz : Int)
theorem blanks (s : ByteArray) (hs : s.size ≤ 2000) (L : List (Int × ByteArray × Int)) (i zz : Nat) (hto : zz ≤ s.size) (HE : PEnds s L i zz) (d : Nat) : ∀ p, zz - p = d → p ≤ zz →
    (p + LexSpec.skip false ((bytesOf s).drop p) = zz → Evt fun k => topiaristlaw01_LexPlaces.l1 k s (L.map tok) (p : Int) (i : Int) (zz : Int)) ∧
    (p + LexSpec.skip true ((bytesOf s).drop p) = zz → Evt fun k => topiaristlaw01_LexPlaces.l2 k s (L.map tok) (p : Int) (i : Int) (zz : Int)) := by
  induction d with
  | zero =>
    intro p hd hp
    obtain rfl : p = zz := by omega
    refine ⟨fun _ => HE, fun _ => Evt.step (fun k => ?_) HE⟩
    simp only [topiaristlaw01_LexPlaces.l2]
    rw [if_neg (by omega)]
  | succ d ih =>
    intro p hd hp
    have hlt : p < s.size := by omega
    have hdr := drop_at s p hlt
    have hi := ih (p + 1) (by omega) (by omega)
    have h2 : p + LexSpec.skip true ((bytesOf s).drop p) = zz → ¬ (bytesOf s).getD p 0 = 10 → Evt fun k => topiaristlaw01_LexPlaces.l2 k s (L.map tok) (p : Int) (i : Int) (zz : Int) := by
      intro h h10
      rw [hdr, LexSpec.skip, if_neg (by simpa using h10)] at h
      refine Evt.step (fun k => ?_) (hi.2 (by omega))
      simp only [topiaristlaw01_LexPlaces.l2]
      rw [if_pos (by omega), if_pos (by omega), if_pos (by omega), bt_get, if_neg h10, wrap_nat p (by omega)]
    have h1 : p + LexSpec.skip false ((bytesOf s).drop p) = zz → Evt fun k => topiaristlaw01_LexPlaces.l1 k s (L.map tok) (p : Int) (i : Int) (zz : Int) := by
      intro h
      by_cases h35 : (bytesOf s).getD p 0 = 35
      · have h' : p + LexSpec.skip true ((bytesOf s).drop p) = zz := by
          rw [hdr, h35] at h ⊢
          exact h
        refine Evt.step (fun k => ?_) (h2 h' (by rw [h35]; decide))
        simp only [topiaristlaw01_LexPlaces.l1]
        rw [if_pos (by omega), if_pos (by omega), if_pos (by omega), bt_get, if_pos h35]
      · rw [hdr, LexSpec.skip] at h
        have hb : (bytesOf s).getD p 0 = 32 ∨ (bytesOf s).getD p 0 = 9 ∨ (bytesOf s).getD p 0 = 10 := by
          generalize (bytesOf s).getD p 0 = c at *
          by_cases hc : (c == 32 || (c == 9 || c == 10)) = true
          · simpa using hc
          · rw [if_neg hc, if_neg (by simpa using h35)] at h; omega
        have hn : p + 1 + LexSpec.skip false ((bytesOf s).drop (p + 1)) = zz := by
          rw [if_pos (by generalize (bytesOf s).getD p 0 = c at *; simpa using hb)] at h
          omega
        refine Evt.step (fun k => ?_) (hi.1 hn)
        simp only [topiaristlaw01_LexPlaces.l1]
        rw [if_pos (by omega), if_pos (by omega), if_pos (by omega), bt_get, if_neg h35, wrap_nat p (by omega)]
        by_cases h32 : (bytesOf s).getD p 0 = 32
        · rw [if_pos h32]
        · rw [if_neg h32]
          by_cases h9 : (bytesOf s).getD p 0 = 9
          · rw [if_pos h9]
          · rw [if_neg h9, if_pos (by generalize (bytesOf s).getD p 0 = c at *; omega)]
    refine ⟨h1, fun h => ?_⟩
    by_cases h10 : (bytesOf s).getD p 0 = 10
    · have h' : p + LexSpec.skip false ((bytesOf s).drop p) = zz := by
        rw [hdr, h10] at h ⊢
        exact h
      refine Evt.step (fun k => ?_) (h1 h')
      simp only [topiaristlaw01_LexPlaces.l2]
      rw [if_pos (by omega), if_pos (by omega), if_pos (by omega), bt_get, if_pos h10]
    · exact h2 h h10
/-- The text of a token, with its quotes, is what stands there. -/
theorem quoted (s : ByteArray) (m b n : Nat) (hn : m + n ≤ s.size) (hb : b + 1 = n) (h2 : 2 ≤ n) (h0 : (bytesOf s).getD m 0 = 39) (h1 : (bytesOf s).getD (m + b) 0 = 39) :
    s.extract m (m + n) = ((⟨#[39]⟩ : ByteArray) ++ s.extract (m + 1) (m + b)) ++ (⟨#[39]⟩ : ByteArray) := by
  apply bytesOf_inj
  have happ : ∀ x y : ByteArray, bytesOf (x ++ y) = bytesOf x ++ bytesOf y := by
    intro x y
    unfold bytesOf
    rw [ByteArray.data_append, Array.toList_append, List.map_append]
  have h39 : bytesOf (⟨#[39]⟩ : ByteArray) = [39] := rfl
  rw [happ, happ, h39, bytesOf_extract, bytesOf_extract, drop_at s m (by omega), h0, show m + n - m = (b - 1) + 1 + 1 from by omega, show m + b - (m + 1) = b - 1 from by omega, List.take_succ_cons, List.take_add_one]
  rw [List.getElem?_drop, show m + 1 + (b - 1) = m + b from by omega]
  have hl : m + b < (bytesOf s).length := by rw [bytesOf_length]; omega
  rw [List.getD_eq_getElem?_getD, List.getElem?_eq_getElem hl] at h1
  simp only [Option.getD_some] at h1
  rw [List.getElem?_eq_getElem hl, h1]
  rfl
theorem tail_ok (s T : ByteArray) (hs : s.size ≤ 2000) (l : List S36) (k m n : Nat) (j : Int) (h1 : 1 ≤ n) (hn : m + n ≤ s.size) (hT : s.extract m (m + n) = T) (hz : T.size = n) :
    (if (T.size : Int) = 0 then (some false) else (if (wrap64 ((m : Int) + (T.size : Int))) > (s.size : Int) then (some false) else (if 0 ≤ (m : Int) then (if (m : Int) ≤ (wrap64 ((m : Int) + (T.size : Int))) then (if (wrap64 ((m : Int) + (T.size : Int))) ≤ (s.size : Int) then (if (s.extract ((m : Int) : Int).toNat ((wrap64 ((m : Int) + (T.size : Int))) : Int).toNat).toList = T.toList then (topiaristlaw01_LexPlaces.l0 k s l (wrap64 ((m : Int) + (T.size : Int))) j) else (some false)) else (none)) else (none)) else (none)))) = topiaristlaw01_LexPlaces.l0 k s l ((m + n : Nat) : Int) j := by
  have hwn : wrap64 ((m : Int) + (n : Int)) = ((m + n : Nat) : Int) := by unfold wrap64; omega
  rw [hz, hwn, if_neg (by omega), if_neg (by omega), if_pos (by omega), if_pos (by omega), if_pos (by omega), Int.toNat_natCast, Int.toNat_natCast, hT, if_pos rfl]
theorem one_token (s : ByteArray) (hs : s.size ≤ 2000) (L : List (Int × ByteArray × Int)) (i m : Nat) (kd : Int) (a b n : Nat) (hm : m < s.size) (ht : LexSpec.token ((bytesOf s).drop m) = some (kd, a, b, n))
    (hq : L[i]? = some (kd, s.extract (m + a) (m + b), (m : Int))) (hL : L.length ≤ 4000) (H : Evt fun k => topiaristlaw01_LexPlaces.l0 k s (L.map tok) ((m + n : Nat) : Int) ((i + 1 : Nat) : Int)) : PEnds s L i m := by
  have hi : i < L.length := by
    rcases Nat.lt_or_ge i L.length with h | h
    · exact h
    · rw [List.getElem?_eq_none h] at hq; cases hq
  have hn := LexSpec.token_some _ _ _ _ _ ht
  rw [List.length_drop, bytesOf_length] at hn
  have hw : wrap64 ((i : Int) + 1) = ((i + 1 : Nat) : Int) := wrap_nat i (by omega)
  have hrd := rd_tok L i _ hq
  refine Evt.step (fun k => ?_) H
  simp only [topiaristlaw01_LexPlaces.l1]
  rw [if_neg (by omega), if_neg (by rw [List.length_map]; omega), if_pos (by omega), if_pos (by rw [List.length_map]; omega), hrd, hw]
  rcases token_shape _ _ _ _ _ ht with ⟨rfl, rfl, hb, h2, h0, h1⟩ | ⟨hk, rfl, rfl⟩
  · rw [getD_drop] at h0 h1
    have hx := quoted s m b n (by omega) hb h2 h0 h1
    have hz2 := size_extract s (m + 1) (m + b) (by omega)
    have hz3 : ((⟨#[39]⟩ : ByteArray) ++ s.extract (m + 1) (m + b)).size = b := by rw [ByteArray.size_append, hz2, show (⟨#[39]⟩ : ByteArray).size = 1 from rfl]; omega
    have hz : (((⟨#[39]⟩ : ByteArray) ++ s.extract (m + 1) (m + b)) ++ (⟨#[39]⟩ : ByteArray)).size = n := by rw [← hx, size_extract _ _ _ (by omega)]; omega
    have e0 : (tok (2, s.extract (m + 1) (m + b), (m : Int))).f0 = 2 := rfl
    have e1 : (tok (2, s.extract (m + 1) (m + b), (m : Int))).f1 = s.extract (m + 1) (m + b) := rfl
    rw [e0, e1, if_pos rfl]
    have g1 : 1 + (s.extract (m + 1) (m + b)).size ≤ 9223372036854775807 := by rw [hz2]; omega
    have g2 : ((⟨#[39]⟩ : ByteArray) ++ s.extract (m + 1) (m + b)).size + 1 ≤ 9223372036854775807 := by rw [hz3]; omega
    rw [if_pos g1, if_pos g2]
    exact tail_ok s _ hs (L.map tok) k m n _ hn.1 (by omega) hx hz
  · have hz2 : (s.extract (m + 0) (m + b)).size = b := by rw [size_extract s (m + 0) (m + b) (by omega)]; omega
    have e0 : (tok (kd, s.extract (m + 0) (m + b), (m : Int))).f0 = kd := rfl
    have e1 : (tok (kd, s.extract (m + 0) (m + b), (m : Int))).f1 = s.extract (m + 0) (m + b) := rfl
    rw [e0, e1, if_neg hk]
    exact tail_ok s _ hs (L.map tok) k m b _ hn.1 (by omega) rfl hz2
theorem places (s : ByteArray) (hs : s.size ≤ 2000) (L : List (Int × ByteArray × Int)) (hL : L.length ≤ 4000) (d : Nat) : ∀ i p, L.length - i = d → i ≤ L.length → p ≤ s.size → after s false p = .ok (L.drop i) →
    Evt fun k => topiaristlaw01_LexPlaces.l0 k s (L.map tok) (p : Int) (i : Int) := by
  induction d with
  | zero =>
    intro i p hd hi hp ha
    obtain rfl : i = L.length := by omega
    rw [List.drop_length] at ha
    rcases after_case s p hp _ ha with ⟨hm, _⟩ | ⟨kd, a, b, n, R', hm, ht, hR, _⟩
    · have HE : PEnds s L L.length s.size := by
        refine Evt.now fun k => ?_
        simp only [topiaristlaw01_LexPlaces.l1]
        rw [if_neg (by omega), if_pos (by rw [List.length_map]), wakes_true]
        rfl
      have hb := (blanks s hs L L.length s.size (Nat.le_refl _) HE _ p rfl hp).1 hm
      refine Evt.step (g := fun k => topiaristlaw01_LexPlaces.j1 k s (L.map tok) (p : Int) (L.length : Int) (s.size : Int)) (fun k => ?_) (Evt.step (g := fun k => topiaristlaw01_LexPlaces.j2 k s (L.map tok) (p : Int) (L.length : Int) (s.size : Int) false) (fun k => ?_) (Evt.step (fun k => ?_) hb))
      · simp only [topiaristlaw01_LexPlaces.l0]
        rw [if_pos (by rw [List.length_map]; omega), if_neg (by rw [List.length_map]; omega)]
      · simp only [topiaristlaw01_LexPlaces.j1]
        rw [if_neg (by omega), show decide ((s.size : Int) > (s.size : Int)) = false from decide_eq_false (by omega)]
      · simp only [topiaristlaw01_LexPlaces.j2]
        rw [if_neg (by simp)]
    · cases hR
  | succ d ih =>
    intro i p hd hi hp ha
    have hil : i < L.length := by omega
    have hdi : L.drop i = L[i] :: L.drop (i + 1) := List.drop_eq_getElem_cons hil
    rcases after_case s p hp _ ha with ⟨hm, hR⟩ | ⟨kd, a, b, n, R', hm, ht, hR, hr⟩
    · rw [hdi] at hR; cases hR
    · rw [hdi] at hR
      injection hR with hq hR
      have hn := LexSpec.token_some _ _ _ _ _ ht
      rw [List.length_drop, bytesOf_length] at hn
      generalize hmm : p + LexSpec.skip false ((bytesOf s).drop p) = m at *
      have hpm : p ≤ m := by omega
      have hget : L[i]? = some (kd, s.extract (m + a) (m + b), (m : Int)) := by rw [List.getElem?_eq_getElem hil, hq]
      rw [← hR] at hr
      have H := ih (i + 1) (m + n) (by omega) (by omega) (by omega) hr
      have HE := one_token s hs L i m kd a b n hm ht hget hL H
      have hb := (blanks s hs L i m (by omega) HE _ p rfl hpm).1 hmm
      refine Evt.step (g := fun k => topiaristlaw01_LexPlaces.j1 k s (L.map tok) (p : Int) (i : Int) (m : Int)) (fun k => ?_) (Evt.step (g := fun k => topiaristlaw01_LexPlaces.j2 k s (L.map tok) (p : Int) (i : Int) (m : Int) false) (fun k => ?_) (Evt.step (fun k => ?_) hb))
      · simp only [topiaristlaw01_LexPlaces.l0]
        rw [if_pos (by rw [List.length_map]; omega), if_pos (by rw [List.length_map]; omega), if_pos (by omega), rd_tok L i _ hget]
        rfl
      · simp only [topiaristlaw01_LexPlaces.j1]
        rw [if_neg (by omega), show decide ((m : Int) > (s.size : Int)) = false from decide_eq_false (by omega)]
      · simp only [topiaristlaw01_LexPlaces.j2]
        rw [if_neg (by simp)]
theorem toks_fault (s : ByteArray) (k i e : Nat) (h : LexSpec.toks s k i = .error e) : e < s.size := by
  induction k generalizing i with
  | zero => cases h
  | succ k ih =>
    simp only [LexSpec.toks] at h
    split at h
    · rename_i hlt
      cases ht : LexSpec.token ((bytesOf s).drop i) with
      | none => simp only [ht, Except.error.injEq] at h; omega
      | some q =>
        obtain ⟨kd, a, b, n⟩ := q
        simp only [ht] at h
        cases hs : LexSpec.toks s k (i + n + LexSpec.skip false ((bytesOf s).drop (i + n))) with
        | error e' =>
          rw [hs] at h
          simp only [Except.error.injEq] at h
          subst h
          exact ih _ hs
        | ok l' => rw [hs] at h; cases h
    · cases h
theorem LexPlaces : topiaristlaw01_LexPlaces.Pure := by
  intro s hz
  by_cases hs : (s.size : Int) > 2000
  · exact ⟨0, by unfold topiaristlaw01_LexPlaces.f; rw [if_pos hs, wakes_true]; rfl⟩
  · cases hto : LexSpec.tokens s with
    | error e =>
      refine ⟨0, ?_⟩
      have he := toks_fault s _ _ _ hto
      unfold topiaristlaw01_LexPlaces.f lex_Tokens.f
      rw [if_neg hs, if_neg (by omega), hto]
      simp only [Option.bind_some]
      rw [if_neg (by decide), if_pos (by simp), if_pos (by omega), if_pos (by omega), wakes_true]
      rfl
    | ok L =>
      have hc := toks_count s _ _ _ hto
      have ha : after s false 0 = .ok (L.drop 0) := by
        unfold after
        rw [List.drop_zero, Nat.zero_add, List.drop_zero]
        exact hto
      obtain ⟨k, hk⟩ := (places s (by omega) L (by omega) _ 0 0 rfl (by omega) (by omega) ha).get
      refine ⟨k, ?_⟩
      unfold topiaristlaw01_LexPlaces.f lex_Tokens.f
      rw [if_neg hs, if_neg (by omega), hto]
      simp only [Option.bind_some, if_true]
      exact hk
end Go.Proofs.Ytfbncmcibfkfiaa.Pure
