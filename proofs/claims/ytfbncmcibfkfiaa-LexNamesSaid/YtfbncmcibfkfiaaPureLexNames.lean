/- LexNames answers true at every text of any size: a text is a name exactly if it is the one token of itself, and a term exactly if it is so in quotes. Conditions: none. -/
import Derived.Test.YtfbncmcibfkfiaaPx6
import Derived.Test.YtfbncmcibfkfiaaLexAfter
import Derived.Test.YtfbncmcibfkfiaaLexMore
set_option linter.unusedVariables false
set_option linter.unusedSimpArgs false
namespace Go.Proofs.Ytfbncmcibfkfiaa.Pure
open Go.RowKit Go.Proofs.Ytfbncmcibfkfiaa.P Go.Proofs.YtfbncmcibfkfiaaW.PrintWords Go.Proofs.YtfbncmcibfkfiaaW.PrintLast Go.Proofs.Ytfbncmcibfkfiaa.Base

theorem bytesOf_append (x y : ByteArray) : bytesOf (x ++ y) = bytesOf x ++ bytesOf y := by
  unfold bytesOf
  rw [ByteArray.data_append, Array.toList_append, List.map_append]
theorem toks_at (s : ByteArray) (k i : Nat) (l : List (Int × ByteArray × Int)) (h : LexSpec.toks s k i = .ok l) : ∀ q ∈ l, 0 ≤ q.2.2 ∧ q.2.2 ≤ s.size := by
  induction k generalizing i l with
  | zero => simp only [LexSpec.toks, Except.ok.injEq] at h; subst h; simp
  | succ k ih =>
    simp only [LexSpec.toks] at h
    split at h
    · rename_i hlt
      cases ht : LexSpec.token ((bytesOf s).drop i) with
      | none => simp only [ht] at h; cases h
      | some q =>
        obtain ⟨kd, a, b, n⟩ := q
        simp only [ht] at h
        cases hs : LexSpec.toks s k (i + n + LexSpec.skip false ((bytesOf s).drop (i + n))) with
        | error e => rw [hs] at h; cases h
        | ok l' =>
          rw [hs] at h
          simp only [Except.ok.injEq] at h
          subst h
          intro q hq
          rcases List.mem_cons.1 hq with rfl | hq
          · show 0 ≤ (i : Int) ∧ (i : Int) ≤ s.size; omega
          · exact ih _ _ hs q hq
    · simp only [Except.ok.injEq] at h; subst h; simp
def asT (q : Int × ByteArray × Int) : LexSpec.Tk := (q.1, bytesOf q.2.1, q.2.2.toNat)
theorem asT_eq (q : Int × ByteArray × Int) (h : 0 ≤ q.2.2) (q' : Int × ByteArray × Int) (h' : 0 ≤ q'.2.2) (d : Nat) (e : asT q' = LexSpec.shift d (asT q)) : q'.1 = q.1 ∧ q'.2.1 = q.2.1 ∧ q'.2.2 = q.2.2 + d := by
  simp only [asT, LexSpec.shift, Prod.mk.injEq] at e
  exact ⟨e.1, bytesOf_inj e.2.1, by omega⟩
theorem tokens_ok (s : ByteArray) (L : List (Int × ByteArray × Int)) (h : LexSpec.tokens s = .ok L) : LexSpec.all 0 (bytesOf s) = .ok (L.map asT) := by
  rw [← LexSpec.tokens_all, h]; rfl
theorem tokens_of (s : ByteArray) (M : List LexSpec.Tk) (h : LexSpec.all 0 (bytesOf s) = .ok M) : ∃ L, LexSpec.tokens s = .ok L ∧ L.map asT = M := by
  rw [← LexSpec.tokens_all] at h
  cases ht : LexSpec.tokens s with
  | error e => rw [ht] at h; cases h
  | ok L => rw [ht] at h; simp only [LexSpec.asL, Except.ok.injEq] at h; exact ⟨L, rfl, h⟩
theorem tokF_ok (s : ByteArray) (hs : s.size ≤ 2000) (L : List (Int × ByteArray × Int)) (h : LexSpec.tokens s = .ok L) : lex_Tokens.f s = some (L.map tok, 0, 0) := by
  unfold lex_Tokens.f; rw [if_neg (by omega), h]
theorem tokF_err (s : ByteArray) (hs : s.size ≤ 2000) (e : Nat) (h : LexSpec.tokens s = .error e) : lex_Tokens.f s = some ([], 11, (e : Int)) := by
  unfold lex_Tokens.f; rw [if_neg (by omega), h]
theorem letter_skip (c : Int) (cs : List Int) (h : LexSpec.letter c = true) : LexSpec.skip false (c :: cs) = 0 := by
  unfold LexSpec.letter at h
  simp only [Bool.or_eq_true, Bool.and_eq_true, decide_eq_true_eq] at h
  rw [LexSpec.skip, if_neg (by simp; omega), if_neg (by simp; omega)]
theorem all_name (l : List Int) (h : LexSpec.isName l = true) : LexSpec.all 0 l = .ok [(1, l, 0)] := by
  cases l with
  | nil => cases h
  | cons c cs =>
    have h0 := h
    unfold LexSpec.isName at h
    simp only [Bool.and_eq_true, decide_eq_true_eq, beq_iff_eq] at h
    obtain ⟨⟨⟨h1, h2⟩, h3⟩, h4⟩ := h
    have hc : LexSpec.letter c = true := h3
    have hs := letter_skip c cs hc
    have ht : LexSpec.token (c :: cs) = some (1, 0, (c :: cs).length, (c :: cs).length) := by
      simp only [LexSpec.token]
      rw [if_pos hc, h4, List.take_length, if_pos h0]
    rw [LexSpec.all_some 0 (c :: cs) c cs (by rw [hs]; rfl) 1 0 _ _ ht, hs, List.drop_length, LexSpec.all_nil _ [] rfl, List.take_length]
    rfl
theorem all_term (l : List Int) (h : LexSpec.isTerm l = true) : LexSpec.all 0 (39 :: (l ++ [39])) = .ok [(2, l, 0)] := by
  have h0 := h
  unfold LexSpec.isTerm at h
  simp only [Bool.and_eq_true, decide_eq_true_eq, beq_iff_eq] at h
  obtain ⟨⟨h1, h2⟩, h4⟩ := h
  have hs : LexSpec.skip false (39 :: (l ++ [39])) = 0 := by
    rw [LexSpec.skip, if_neg (by decide), if_neg (by decide)]
  have hr : LexSpec.run LexSpec.inside (l ++ [39]) = l.length := by
    have := LexSpec.run_local LexSpec.inside l [39] l.length h4 (.inr rfl)
    rwa [List.take_length] at this
  have ht : LexSpec.token (39 :: (l ++ [39])) = some (2, 1, l.length + 1, l.length + 2) := by
    simp only [LexSpec.token]
    rw [if_neg (by decide), if_pos (by decide), hr, List.take_left', h0, decide_eq_true (by simp), List.getD_eq_getElem?_getD, List.getElem?_append_right (Nat.le_refl _), Nat.sub_self]
    · rfl
    · rfl
  rw [LexSpec.all_some 0 _ 39 (l ++ [39]) (by rw [hs]; rfl) 2 1 _ _ ht, hs, show (39 :: (l ++ [39])).drop (l.length + 2) = [] from List.drop_of_length_le (by simp), LexSpec.all_nil _ [] rfl]
  simp [LexSpec.ahead]
theorem single (t s : ByteArray) (kd : Int) (h : LexSpec.all 0 (bytesOf t) = .ok [(kd, bytesOf s, 0)]) : LexSpec.tokens t = .ok [(kd, s, 0)] := by
  obtain ⟨L, hL, hm⟩ := tokens_of t _ h
  have hat := toks_at t _ _ _ hL
  match L, hm, hL, hat with
  | [], hm, _, _ => cases hm
  | _ :: _ :: _, hm, _, _ =>
    simp at hm
  | [q], hm, hL, hat =>
    simp only [List.map_cons, List.map_nil, List.cons.injEq, and_true, asT, Prod.mk.injEq] at hm
    have h0 := hat q (by simp)
    have : q = (kd, s, 0) := Prod.ext hm.1 (Prod.ext (bytesOf_inj hm.2.1) (by show q.2.2 = 0; omega))
    rw [hL, this]
/-- Whether a text's tokens are this one alone. -/
def alone (kd : Int) (s t : ByteArray) : Bool := match LexSpec.tokens t with
  | .ok [q] => q.1 == kd && (q.2.1.toList == s.toList && q.2.2 == 0)
  | _ => false
theorem alone_kind (kd : Int) (s t : ByteArray) (h : alone kd s t = true) : LexSpec.kindOk (kd, bytesOf s, 0) := by
  unfold alone at h
  split at h
  · rename_i q hL
    simp only [Bool.and_eq_true, beq_iff_eq] at h
    have hk := LexSpec.all_kinds 0 (bytesOf t) _ (tokens_ok t _ hL) (asT q) (by simp)
    obtain ⟨h1, h2, h3⟩ := h
    have e : asT q = (kd, bytesOf s, 0) := by
      unfold asT
      rw [h1, toList_inj h2, h3]
      rfl
    rwa [e] at hk
  · cases h
theorem alone_of (kd : Int) (s t : ByteArray) (h : LexSpec.tokens t = .ok [(kd, s, 0)]) : alone kd s t = true := by
  unfold alone
  rw [h]
  simp
theorem one_name (s : ByteArray) : alone 1 s s = LexSpec.isName (bytesOf s) := by
  rw [Bool.eq_iff_iff]
  constructor
  · intro h
    rcases alone_kind _ _ _ h with h | h | h | h | h
    · exact h.2
    all_goals exact absurd h.1 (by simp)
  · intro h
    exact alone_of 1 s s (single s s 1 (all_name _ h))
theorem bytes_quoted (s : ByteArray) : bytesOf (((⟨#[39]⟩ : ByteArray) ++ s) ++ (⟨#[39]⟩ : ByteArray)) = 39 :: (bytesOf s ++ [39]) := by
  rw [bytesOf_append, bytesOf_append, List.append_assoc]
  rfl
theorem one_term (s : ByteArray) : alone 2 s (((⟨#[39]⟩ : ByteArray) ++ s) ++ (⟨#[39]⟩ : ByteArray)) = LexSpec.isTerm (bytesOf s) := by
  rw [Bool.eq_iff_iff]
  constructor
  · intro h
    rcases alone_kind _ _ _ h with h | h | h | h | h
    · exact absurd h.1 (by simp)
    · exact h.2
    all_goals exact absurd h.1 (by simp)
  · intro h
    exact alone_of 2 s _ (single _ s 2 (by rw [bytes_quoted]; exact all_term _ h))
theorem alone_f {β : Type} (kd : Int) (s t : ByteArray) (ht : t.size ≤ 2000) (g : Bool → Option β) :
    ((lex_Tokens.f t).bind fun b => (if b.2.1 = 0 then (if (b.1.length : Int) = 1 then (if 0 < (b.1.length : Int) then (g (((rd_T36 b.1 0).f0) == kd && ((((rd_T36 b.1 0).f1).toList) == s.toList && (((rd_T36 b.1 0).f2) == 0)))) else (none)) else (g false)) else (g false))) = g (alone kd s t) := by
  unfold alone
  cases h : LexSpec.tokens t with
  | error e =>
    rw [tokF_err t ht e h]
    simp only [Option.bind_some]
    rw [if_neg (by decide)]
  | ok L =>
    rw [tokF_ok t ht L h]
    simp only [Option.bind_some, if_true, List.length_map]
    match L with
    | [] => rw [if_neg (by simp)]
    | [q] => rfl
    | q :: q' :: R => rw [if_neg (by simp; omega)]
/-- What the loop over the bytes knows. -/
def nm (b : Bool) (l : List Int) : Nat → Bool
  | 0 => b
  | i + 1 => nm b l i && (LexSpec.letter (l.getD i 0) || (decide (0 < i) && ((decide (48 ≤ l.getD i 0) && decide (l.getD i 0 ≤ 57)) || l.getD i 0 == 95)))
def tm (b : Bool) (l : List Int) : Nat → Bool
  | 0 => b
  | i + 1 => tm b l i && LexSpec.inside (l.getD i 0)
theorem tm_iff (b : Bool) (l : List Int) (n : Nat) : tm b l n = true ↔ b = true ∧ ∀ j, j < n → LexSpec.inside (l.getD j 0) = true := by
  induction n with
  | zero => simp [tm]
  | succ n ih =>
    rw [tm, Bool.and_eq_true, ih]
    constructor
    · rintro ⟨⟨h1, h2⟩, h3⟩
      refine ⟨h1, fun j hj => ?_⟩
      rcases Nat.lt_or_ge j n with h | h
      · exact h2 j h
      · obtain rfl : j = n := by omega
        exact h3
    · rintro ⟨h1, h2⟩
      exact ⟨⟨h1, fun j hj => h2 j (by omega)⟩, h2 n (by omega)⟩
theorem nm_iff (b : Bool) (l : List Int) (n : Nat) : nm b l n = true ↔ b = true ∧ (0 < n → LexSpec.letter (l.getD 0 0) = true) ∧ ∀ j, j < n → LexSpec.inner (l.getD j 0) = true := by
  induction n with
  | zero => simp [nm]
  | succ n ih =>
    rw [nm, Bool.and_eq_true, ih]
    have hin : ∀ c : Int, LexSpec.inner c = (LexSpec.letter c || ((decide (48 ≤ c) && decide (c ≤ 57)) || c == 95)) := fun _ => rfl
    constructor
    · rintro ⟨⟨h1, h2, h3⟩, h4⟩
      refine ⟨h1, fun _ => ?_, fun j hj => ?_⟩
      · rcases Nat.eq_zero_or_pos n with rfl | hn
        · simpa using h4
        · exact h2 hn
      · rcases Nat.lt_or_ge j n with h | h
        · exact h3 j h
        · obtain rfl : j = n := by omega
          rw [hin]
          cases hl : LexSpec.letter (l.getD j 0) with
          | true => rfl
          | false =>
            rw [hl] at h4
            simp only [Bool.false_or, Bool.and_eq_true] at h4 ⊢
            exact h4.2
    · rintro ⟨h1, h2, h3⟩
      refine ⟨⟨h1, fun _ => h2 (by omega), fun j hj => h3 j (by omega)⟩, ?_⟩
      rcases Nat.eq_zero_or_pos n with rfl | hn
      · rw [h2 (by omega)]; rfl
      · have := h3 n (by omega)
        rw [hin] at this
        rw [decide_eq_true hn, Bool.true_and]
        exact this
theorem tm_end (l : List Int) : tm (decide (1 ≤ l.length) && decide (l.length ≤ 16)) l l.length = LexSpec.isTerm l := by
  rw [Bool.eq_iff_iff, tm_iff]
  unfold LexSpec.isTerm
  rw [Bool.and_eq_true (decide (1 ≤ l.length) && decide (l.length ≤ 16)), beq_iff_eq]
  constructor
  · rintro ⟨h1, h2⟩
    exact ⟨h1, LexSpec.run_eq _ _ _ h2 (Nat.le_refl _) (fun h => absurd h (Nat.lt_irrefl _))⟩
  · rintro ⟨h1, h2⟩
    exact ⟨h1, fun j hj => LexSpec.run_lt _ _ j (by omega)⟩
theorem nm_end (l : List Int) : nm (decide (1 ≤ l.length) && decide (l.length ≤ 16)) l l.length = LexSpec.isName l := by
  rw [Bool.eq_iff_iff, nm_iff]
  unfold LexSpec.isName
  rw [Bool.and_eq_true (decide (1 ≤ l.length) && decide (l.length ≤ 16) && LexSpec.letter (l.getD 0 0)), Bool.and_eq_true (decide (1 ≤ l.length) && decide (l.length ≤ 16)), beq_iff_eq]
  constructor
  · rintro ⟨h1, h2, h3⟩
    have : 1 ≤ l.length := by simp only [Bool.and_eq_true, decide_eq_true_eq] at h1; exact h1.1
    exact ⟨⟨h1, h2 this⟩, LexSpec.run_eq _ _ _ h3 (Nat.le_refl _) (fun h => absurd h (Nat.lt_irrefl _))⟩
  · rintro ⟨⟨h1, h2⟩, h3⟩
    exact ⟨h1, fun _ => h2, fun j hj => LexSpec.run_lt _ _ j (by omega)⟩
theorem names_loop (s : ByteArray) (hs : s.size ≤ 300) (b : Bool) (hb : b = (decide (1 ≤ s.size) && decide (s.size ≤ 16))) (d : Nat) :
    ∀ i, i ≤ s.size → s.size - i = d → Evt fun k => topiaristlaw01_LexNames.l0 k s (nm b (bytesOf s) i) (tm b (bytesOf s) i) (i : Int) := by
  induction d with
  | zero =>
    intro i hi hd
    obtain rfl : i = s.size := by omega
    have hz : (((⟨#[39]⟩ : ByteArray) ++ s) ++ (⟨#[39]⟩ : ByteArray)).size ≤ 2000 := by
      have h39 : (⟨#[39]⟩ : ByteArray).size = 1 := rfl
      rw [ByteArray.size_append, ByteArray.size_append, h39]; omega
    have hz1 : ((⟨#[39]⟩ : ByteArray) ++ s).size = 1 + s.size := by
      have h39 : (⟨#[39]⟩ : ByteArray).size = 1 := rfl
      rw [ByteArray.size_append, h39]
    have hn : nm b (bytesOf s) s.size = LexSpec.isName (bytesOf s) := by
      have := nm_end (bytesOf s)
      rw [bytesOf_length, ← hb] at this
      exact this
    have ht : tm b (bytesOf s) s.size = LexSpec.isTerm (bytesOf s) := by
      have := tm_end (bytesOf s)
      rw [bytesOf_length, ← hb] at this
      exact this
    rw [hn, ht]
    refine Evt.step (g := fun k => topiaristlaw01_LexNames.j4 k s (LexSpec.isName (bytesOf s)) (LexSpec.isTerm (bytesOf s)) (LexSpec.isName (bytesOf s))) (fun k => ?_) (Evt.step (g := fun k => topiaristlaw01_LexNames.j5 k s (LexSpec.isName (bytesOf s)) (LexSpec.isTerm (bytesOf s)) (LexSpec.isName (bytesOf s)) (LexSpec.isTerm (bytesOf s))) (fun k => ?_) (Evt.now fun k => ?_))
    · simp only [topiaristlaw01_LexNames.l0]
      rw [if_neg (Int.lt_irrefl _), alone_f 1 s s (by omega) (fun x => topiaristlaw01_LexNames.j4 k s (LexSpec.isName (bytesOf s)) (LexSpec.isTerm (bytesOf s)) x), one_name]
    · simp only [topiaristlaw01_LexNames.j4]
      rw [if_pos (by omega), if_pos (by omega), alone_f 2 s _ hz (fun x => topiaristlaw01_LexNames.j5 k s (LexSpec.isName (bytesOf s)) (LexSpec.isTerm (bytesOf s)) (LexSpec.isName (bytesOf s)) x), one_term]
    · simp only [topiaristlaw01_LexNames.j5]
      rw [lex_IsName.of s (by omega), lex_IsTerm.of s (by omega), wakes_true]
      simp
  | succ d ih =>
    intro i hi hd
    have hlt : i < s.size := by omega
    have H := ih (i + 1) (by omega) (by omega)
    have hbt := bt_get s i
    simp only [nm, tm] at H
    generalize hnn : nm b (bytesOf s) i = n at *
    generalize htt : tm b (bytesOf s) i = t at *
    rw [← hbt] at H
    generalize hcc : bt s (i : Int) = c at *
    have hw : wrap64 ((i : Int) + 1) = ((i + 1 : Nat) : Int) := wrap_nat i (by omega)
    generalize hN : (n && (LexSpec.letter c || (decide (0 < i) && ((decide (48 ≤ c) && decide (c ≤ 57)) || c == 95)))) = n' at *
    refine Evt.step (g := fun k => topiaristlaw01_LexNames.j2 k s n t (i : Int) c (LexSpec.letter c)) (fun k => ?_) (Evt.step (g := fun k => topiaristlaw01_LexNames.j3 k s n' t (i : Int) c) (fun k => ?_) (Evt.step (fun k => ?_) H))
    · simp only [topiaristlaw01_LexNames.l0, hcc]
      rw [if_pos (by omega), if_pos (by omega)]
      unfold LexSpec.letter
      by_cases h1 : c ≥ 97
      · rw [if_pos h1]
        by_cases h2 : c ≤ 122
        · rw [if_pos h2, decide_eq_true h1, decide_eq_true h2]; rfl
        · rw [if_neg h2, if_pos (by omega), decide_eq_true h1, decide_eq_false h2, decide_eq_true (show 65 ≤ c by omega)]
          rfl
      · rw [if_neg h1, decide_eq_false (show ¬ 97 ≤ c from h1)]
        by_cases h3 : c ≥ 65
        · rw [if_pos h3, decide_eq_true (show 65 ≤ c from h3)]; rfl
        · rw [if_neg h3, decide_eq_false (show ¬ 65 ≤ c from h3)]; rfl
    · simp only [topiaristlaw01_LexNames.j2]
      subst hN
      cases n with
      | false => rw [if_neg (by decide), Bool.false_and]
      | true =>
        rw [if_pos rfl, Bool.true_and]
        cases LexSpec.letter c with
        | true => rw [if_pos rfl, Bool.true_or]
        | false =>
          rw [if_neg (by decide), Bool.false_or]
          by_cases h0 : 0 < i
          · rw [if_pos (show (i : Int) > 0 by omega), decide_eq_true h0, Bool.true_and]
            by_cases h1 : c ≥ 48
            · rw [if_pos h1, decide_eq_true (show 48 ≤ c from h1)]
              by_cases h2 : c ≤ 57
              · rw [if_pos h2, decide_eq_true h2]; rfl
              · rw [if_neg h2, decide_eq_false h2]; rfl
            · rw [if_neg h1, decide_eq_false (show ¬ 48 ≤ c from h1)]; rfl
          · rw [if_neg (show ¬ (i : Int) > 0 by omega), decide_eq_false h0, Bool.false_and]
    · simp only [topiaristlaw01_LexNames.j3]
      rw [hw]
      unfold LexSpec.inside
      cases t with
      | false => rw [if_neg (by decide), Bool.false_and]
      | true =>
        rw [if_pos rfl, Bool.true_and]
        by_cases h1 : c ≥ 32
        · rw [if_pos h1, decide_eq_true (show 32 ≤ c from h1), Bool.true_and]
          by_cases h2 : c < 127
          · rw [if_pos h2, decide_eq_true (show c ≤ 126 by omega), Bool.true_and]
          · rw [if_neg h2, decide_eq_false (show ¬ c ≤ 126 by omega), Bool.false_and]
        · rw [if_neg h1, decide_eq_false (show ¬ 32 ≤ c from h1), Bool.false_and]
theorem LexNames : topiaristlaw01_LexNames.Pure := by
  intro s hz
  by_cases hs : (s.size : Int) > 300
  · refine ⟨0, ?_⟩
    unfold topiaristlaw01_LexNames.f
    rw [if_pos hs, wakes_true]
    rfl
  · have H := names_loop s (by omega) _ rfl _ 0 (by omega) rfl
    have H1 : Evt fun k => topiaristlaw01_LexNames.f k s := by
      refine Evt.step (g := fun k => topiaristlaw01_LexNames.l0 k s (decide (1 ≤ s.size) && decide (s.size ≤ 16)) (decide (1 ≤ s.size) && decide (s.size ≤ 16)) 0) (fun k => ?_) H
      simp only [topiaristlaw01_LexNames.f]
      rw [if_neg hs]
      by_cases h1 : (s.size : Int) ≥ 1
      · rw [if_pos h1, decide_eq_true (show 1 ≤ s.size by omega), Bool.true_and]
        simp only [topiaristlaw01_LexNames.j0]
        rw [show decide ((s.size : Int) ≤ 16) = decide (s.size ≤ 16) from by rw [decide_eq_decide]; omega]
      · rw [if_neg h1, decide_eq_false (show ¬ 1 ≤ s.size by omega), Bool.false_and]
        simp only [topiaristlaw01_LexNames.j0]
    exact H1.get
end Go.Proofs.Ytfbncmcibfkfiaa.Pure
