/- LexRow answers true at all pairs of texts of any size: the tokens of two texts with a newline between are those of both. Conditions: none. -/
import Derived.Test.YtfbncmcibfkfiaaPx5
import Derived.Test.YtfbncmcibfkfiaaLexAfter
import Derived.Test.YtfbncmcibfkfiaaLexJoin
set_option linter.unusedVariables false
set_option linter.unusedSimpArgs false
namespace Go.Proofs.Ytfbncmcibfkfiaa.Pure
open Go.RowKit Go.Proofs.Ytfbncmcibfkfiaa.P Go.Proofs.YtfbncmcibfkfiaaW.PrintWords Go.Proofs.YtfbncmcibfkfiaaW.PrintLast Go.Proofs.Ytfbncmcibfkfiaa.Base

theorem bytesOf_append (x y : ByteArray) : bytesOf (x ++ y) = bytesOf x ++ bytesOf y := by
  unfold bytesOf
  rw [ByteArray.data_append, Array.toList_append, List.map_append]
theorem toks_at (s : ByteArray) (k i : Nat) (l : List (Int × ByteArray × Int)) (h : LexSpec.toks s k i = .ok l) : ∀ q ∈ l, 0 ≤ q.2.2 ∧ q.2.2 ≤ s.size := by
  induction k generalizing i l with
  | zero => simp only [LexSpec.toks, Except.ok.injEq] at h; subst h; simp
  | succ k ih =>
    simp only [LexSpec.toks] at h
    split at h
    · rename_i hlt
      cases ht : LexSpec.token ((bytesOf s).drop i) with
      | none => simp only [ht] at h; cases h
      | some q =>
        obtain ⟨kd, a, b, n⟩ := q
        simp only [ht] at h
        cases hs : LexSpec.toks s k (i + n + LexSpec.skip false ((bytesOf s).drop (i + n))) with
        | error e => rw [hs] at h; cases h
        | ok l' =>
          rw [hs] at h
          simp only [Except.ok.injEq] at h
          subst h
          intro q hq
          rcases List.mem_cons.1 hq with rfl | hq
          · show 0 ≤ (i : Int) ∧ (i : Int) ≤ s.size; omega
          · exact ih _ _ hs q hq
    · simp only [Except.ok.injEq] at h; subst h; simp
def asT (q : Int × ByteArray × Int) : LexSpec.Tk := (q.1, bytesOf q.2.1, q.2.2.toNat)
theorem asT_eq (q : Int × ByteArray × Int) (h : 0 ≤ q.2.2) (q' : Int × ByteArray × Int) (h' : 0 ≤ q'.2.2) (d : Nat) (e : asT q' = LexSpec.shift d (asT q)) : q'.1 = q.1 ∧ q'.2.1 = q.2.1 ∧ q'.2.2 = q.2.2 + d := by
  simp only [asT, LexSpec.shift, Prod.mk.injEq] at e
  exact ⟨e.1, bytesOf_inj e.2.1, by omega⟩
theorem tokens_ok (s : ByteArray) (L : List (Int × ByteArray × Int)) (h : LexSpec.tokens s = .ok L) : LexSpec.all 0 (bytesOf s) = .ok (L.map asT) := by
  rw [← LexSpec.tokens_all, h]; rfl
theorem tokens_of (s : ByteArray) (M : List LexSpec.Tk) (h : LexSpec.all 0 (bytesOf s) = .ok M) : ∃ L, LexSpec.tokens s = .ok L ∧ L.map asT = M := by
  rw [← LexSpec.tokens_all] at h
  cases ht : LexSpec.tokens s with
  | error e => rw [ht] at h; cases h
  | ok L => rw [ht] at h; simp only [LexSpec.asL, Except.ok.injEq] at h; exact ⟨L, rfl, h⟩
theorem tokens_err (s : ByteArray) (e : Nat) (h : LexSpec.tokens s = .error e) : LexSpec.all 0 (bytesOf s) = .error e := by
  rw [← LexSpec.tokens_all, h]; rfl
theorem tokens_fails (s : ByteArray) (e : Nat) (h : LexSpec.all 0 (bytesOf s) = .error e) : LexSpec.tokens s = .error e := by
  rw [← LexSpec.tokens_all] at h
  cases ht : LexSpec.tokens s with
  | error e' => rw [ht] at h; simpa [LexSpec.asL] using h
  | ok L => rw [ht] at h; cases h
theorem toks_fault (s : ByteArray) (k i e : Nat) (h : LexSpec.toks s k i = .error e) : e < s.size := by
  induction k generalizing i with
  | zero => cases h
  | succ k ih =>
    simp only [LexSpec.toks] at h
    split at h
    · rename_i hlt
      cases ht : LexSpec.token ((bytesOf s).drop i) with
      | none => simp only [ht, Except.error.injEq] at h; omega
      | some q =>
        obtain ⟨kd, a, b, n⟩ := q
        simp only [ht] at h
        cases hs : LexSpec.toks s k (i + n + LexSpec.skip false ((bytesOf s).drop (i + n))) with
        | error e' =>
          rw [hs] at h
          simp only [Except.error.injEq] at h
          subst h
          exact ih _ hs
        | ok l' => rw [hs] at h; cases h
    · cases h
theorem tokF_ok (s : ByteArray) (hs : s.size ≤ 2000) (L : List (Int × ByteArray × Int)) (h : LexSpec.tokens s = .ok L) : lex_Tokens.f s = some (L.map tok, 0, 0) := by
  unfold lex_Tokens.f; rw [if_neg (by omega), h]
theorem tokF_err (s : ByteArray) (hs : s.size ≤ 2000) (e : Nat) (h : LexSpec.tokens s = .error e) : lex_Tokens.f s = some ([], 11, (e : Int)) := by
  unfold lex_Tokens.f; rw [if_neg (by omega), h]
theorem rd_tok (l : List (Int × ByteArray × Int)) (i : Nat) (h : i < l.length) : rd_T36 (l.map tok) (i : Int) = tok l[i] := by
  unfold rd_T36
  rw [Int.toNat_natCast, List.getD_eq_getElem?_getD, List.getElem?_map, List.getElem?_eq_getElem h]
  rfl
/-- The loop over both. -/
theorem row_loop (s : ByteArray) (hs : s.size ≤ 2000) (L R J : List (Int × ByteArray × Int)) (hL : L.length ≤ 2000) (hR : R.length ≤ 2000) (hr : ∀ q ∈ R, 0 ≤ q.2.2 ∧ q.2.2 ≤ 2000)
    (hJ : J.length = L.length + R.length) (h1 : ∀ i (h : i < L.length), J[i]'(by omega) = L[i]) (h2 : ∀ i (h : i < R.length), (J[L.length + i]'(by omega)).1 = (R[i]).1 ∧ (J[L.length + i]'(by omega)).2.1 = (R[i]).2.1 ∧ (J[L.length + i]'(by omega)).2.2 = (R[i]).2.2 + (s.size + 1 : Nat)) (d : Nat) :
    ∀ i, i ≤ J.length → J.length - i = d → Evt fun k => topiaristlaw01_LexRow.l0 k s (L.map tok) (R.map tok) (J.map tok) (i : Int) := by
  induction d with
  | zero =>
    intro i hi hd
    refine Evt.step (g := fun k => topiaristlaw01_LexRow.j3 k s (L.map tok) (R.map tok) (J.map tok) (i : Int) false) (fun k => ?_) (Evt.now fun k => ?_)
    · simp only [topiaristlaw01_LexRow.l0]
      rw [show decide ((i : Int) < ((J.map tok).length : Int)) = false from decide_eq_false (by rw [List.length_map]; omega)]
    · simp only [topiaristlaw01_LexRow.j3]
      rw [if_neg (by simp), wakes_true]
      rfl
  | succ d ih =>
    intro i hi hd
    have hlt : i < J.length := by omega
    refine Evt.step (g := fun k => topiaristlaw01_LexRow.j3 k s (L.map tok) (R.map tok) (J.map tok) (i : Int) true) (fun k => ?_) (Evt.step (fun k => ?_) (ih (i + 1) (by omega) (by omega)))
    · simp only [topiaristlaw01_LexRow.l0]
      rw [show decide ((i : Int) < ((J.map tok).length : Int)) = true from decide_eq_true (by rw [List.length_map]; omega)]
    · simp only [topiaristlaw01_LexRow.j3]
      rw [if_pos trivial, wrap_nat i (by omega), rd_tok J i hlt]
      by_cases hil : i < L.length
      · rw [if_pos (by rw [List.length_map]; omega), if_pos (by omega), if_pos (by rw [List.length_map]; omega), rd_tok L i hil, h1 i hil, if_neg (by simp)]
      · obtain ⟨m, rfl⟩ : ∃ m, i = L.length + m := ⟨i - L.length, by omega⟩
        have hm : m < R.length := by omega
        have hw : wrap64 (((L.length + m : Nat) : Int) - ((L.map tok).length : Int)) = (m : Int) := by rw [List.length_map]; unfold wrap64; omega
        obtain ⟨g0, g1, g2⟩ := h2 m hm
        have hq := hr _ (List.getElem_mem hm)
        have e0 : (tok (J[L.length + m]'(by omega))).f0 = (tok R[m]).f0 := g0
        have e1 : (tok (J[L.length + m]'(by omega))).f1 = (tok R[m]).f1 := g1
        have e2 : (tok (J[L.length + m]'(by omega))).f2 = wrap64 ((tok R[m]).f2 + wrap64 ((s.size : Int) + 1)) := by
          show (J[L.length + m]'(by omega)).2.2 = wrap64 (R[m].2.2 + wrap64 ((s.size : Int) + 1))
          rw [g2]; unfold wrap64; omega
        rw [if_neg (by rw [List.length_map]; omega), hw, if_pos (by omega), if_pos (by rw [List.length_map]; omega), if_pos (by omega), if_pos (by rw [List.length_map]; omega), rd_tok R m hm, e0, e1, e2, if_neg (by simp)]
theorem wrap_small (a : Int) (h : 0 ≤ a) (h' : a ≤ 100000) : wrap64 a = a := by unfold wrap64; omega
theorem wrap_row (e n : Nat) (he : e ≤ 4000) (hn : n ≤ 4000) : wrap64 (wrap64 ((e : Int) + (n : Int)) + 1) = ((e + (n + 1) : Nat) : Int) := by
  rw [wrap_small ((e : Int) + (n : Int)) (by omega) (by omega), wrap_small _ (by omega) (by omega)]
  omega
theorem bytes_row (s t : ByteArray) : bytesOf ((s ++ (⟨#[10]⟩ : ByteArray)) ++ t) = bytesOf s ++ 10 :: bytesOf t := by
  rw [bytesOf_append, bytesOf_append, List.append_assoc]; rfl
theorem size_row (s t : ByteArray) : (s ++ (⟨#[10]⟩ : ByteArray)).size = s.size + 1 ∧ ((s ++ (⟨#[10]⟩ : ByteArray)) ++ t).size = s.size + 1 + t.size := by
  have h10 : (⟨#[10]⟩ : ByteArray).size = 1 := rfl
  constructor
  · rw [ByteArray.size_append, h10]
  · rw [ByteArray.size_append, ByteArray.size_append, h10]
theorem all_row (s t : ByteArray) : LexSpec.all 0 (bytesOf ((s ++ (⟨#[10]⟩ : ByteArray)) ++ t)) = LexSpec.join (s.size + 1) (bytesOf t) (LexSpec.all 0 (bytesOf s)) := by
  have hrow := LexSpec.row_all (bytesOf t) _ (bytesOf s) 0 (Nat.le_refl _)
  rw [bytes_row, hrow, bytesOf_length, Nat.zero_add]
theorem all_second (s t : ByteArray) : LexSpec.all (s.size + 1) (bytesOf t) = LexSpec.shiftR (s.size + 1) (LexSpec.all 0 (bytesOf t)) := by
  have hsh := LexSpec.all_shift 0 (s.size + 1) (bytesOf t)
  rw [Nat.zero_add] at hsh
  exact hsh
/-- What the statement does once all three texts are read. -/
theorem row_f (k : Nat) (s t : ByteArray) (h : (s.size : Int) + (t.size : Int) ≤ 1990) (l1 l2 l3 : List S36) (e1 e2 e3 p1 p2 p3 : Int) (h1 : lex_Tokens.f s = some (l1, e1, p1)) (h2 : lex_Tokens.f t = some (l2, e2, p2))
    (h3 : lex_Tokens.f ((s ++ (⟨#[10]⟩ : ByteArray)) ++ t) = some (l3, e3, p3)) (b : Bool) (hb : (e1 != 0) = b) : topiaristlaw01_LexRow.f k s t = topiaristlaw01_LexRow.j0 k s l1 l2 l3 b e1 p1 e2 p2 e3 p3 := by
  have hws : wrap64 ((s.size : Int) + (t.size : Int)) = (s.size : Int) + (t.size : Int) := wrap_small _ (by omega) (by omega)
  have hz := size_row s t
  subst hb
  unfold topiaristlaw01_LexRow.f
  rw [hws, if_neg (by omega), h1, h2]
  simp only [Option.bind_some]
  rw [if_pos (by omega), if_pos (by omega), h3]
  rfl
theorem row_err1 (s t : ByteArray) (h : (s.size : Int) + (t.size : Int) ≤ 1990) (e : Nat) (hS : LexSpec.tokens s = .error e) : Evt fun k => topiaristlaw01_LexRow.f k s t := by
  have hrow := all_row s t
  rw [tokens_err s e hS] at hrow
  have hJ := tokens_fails _ _ hrow
  have hz := size_row s t
  obtain ⟨r1, r2, r3, hT, _⟩ := tokens_some t
  refine Evt.now fun k => ?_
  rw [row_f (k + 1) s t h [] r1 [] 11 r2 11 e r3 e (tokF_err s (by omega) e hS) hT (tokF_err _ (by omega) e hJ) true (by decide)]
  simp only [topiaristlaw01_LexRow.j0]
  rw [if_pos trivial, if_pos (by simp), if_pos (by simp), wakes_true]
  rfl
theorem row_err2 (s t : ByteArray) (h : (s.size : Int) + (t.size : Int) ≤ 1990) (L : List (Int × ByteArray × Int)) (hS : LexSpec.tokens s = .ok L) (e : Nat) (hT : LexSpec.tokens t = .error e) : Evt fun k => topiaristlaw01_LexRow.f k s t := by
  have hrow := all_row s t
  have he := toks_fault t _ _ _ hT
  rw [tokens_ok s L hS] at hrow
  simp only [LexSpec.join, all_second, tokens_err t e hT, LexSpec.shiftR] at hrow
  have hJ := tokens_fails _ _ hrow
  have hz := size_row s t
  have hw : wrap64 (wrap64 ((e : Int) + (s.size : Int)) + 1) = ((e + (s.size + 1) : Nat) : Int) := wrap_row e s.size (by omega) (by omega)
  refine Evt.now fun k => ?_
  rw [row_f (k + 1) s t h (L.map tok) [] [] 0 11 11 0 e ((e + (s.size + 1) : Nat) : Int) (tokF_ok s (by omega) L hS) (tokF_err t (by omega) e hT) (tokF_err _ (by omega) _ hJ) false (by decide)]
  simp only [topiaristlaw01_LexRow.j0]
  rw [if_neg (by decide), if_neg (by decide), hw, if_pos (by simp), if_pos (by simp), wakes_true]
  rfl
theorem row_ok (s t : ByteArray) (h : (s.size : Int) + (t.size : Int) ≤ 1990) (L R : List (Int × ByteArray × Int)) (hS : LexSpec.tokens s = .ok L) (hT : LexSpec.tokens t = .ok R) : Evt fun k => topiaristlaw01_LexRow.f k s t := by
  have hrow := all_row s t
  rw [tokens_ok s L hS] at hrow
  simp only [LexSpec.join, all_second, tokens_ok t R hT, LexSpec.shiftR] at hrow
  have hz := size_row s t
  obtain ⟨J, hJ, hmap⟩ := tokens_of _ _ hrow
  have hcL := toks_count s _ _ _ hS
  have hcR := toks_count t _ _ _ hT
  have haL := toks_at s _ _ _ hS
  have haR := toks_at t _ _ _ hT
  have haJ := toks_at _ _ _ _ hJ
  have hlen : J.length = L.length + R.length := by
    have := congrArg List.length hmap
    simpa using this
  have hloop := row_loop s (by omega) L R J (by omega) (by omega) (fun q hq => by have := haR q hq; omega) hlen (fun i hi => by
    have hget := congrArg (fun z => z[i]?) hmap
    have hiJ : i < J.length := by omega
    simp only [List.getElem?_map] at hget
    rw [List.getElem?_append_left (by rw [List.length_map]; omega), List.getElem?_map, List.getElem?_eq_getElem hi, List.getElem?_eq_getElem hiJ] at hget
    simp only [Option.map_some, Option.some.injEq] at hget
    have hq := haL _ (List.getElem_mem hi)
    have hq' := haJ _ (List.getElem_mem hiJ)
    obtain ⟨g1, g2, g3⟩ := asT_eq _ hq.1 _ hq'.1 0 (by rw [hget]; simp [LexSpec.shift])
    exact Prod.ext g1 (Prod.ext g2 (by simpa using g3))) (fun i hi => by
    have hget := congrArg (fun z => z[L.length + i]?) hmap
    have hiJ : L.length + i < J.length := by omega
    simp only [List.getElem?_map] at hget
    rw [List.getElem?_append_right (by rw [List.length_map]; omega), List.length_map, Nat.add_sub_cancel_left, List.getElem?_map, List.getElem?_map, List.getElem?_eq_getElem hi, List.getElem?_eq_getElem hiJ] at hget
    simp only [Option.map_some, Option.some.injEq] at hget
    have hq := haR _ (List.getElem_mem hi)
    have hq' := haJ _ (List.getElem_mem hiJ)
    exact asT_eq _ hq.1 _ hq'.1 (s.size + 1) hget) _ 0 (by omega) rfl
  have hw : wrap64 (((L.map tok).length : Int) + ((R.map tok).length : Int)) = ((J.map tok).length : Int) := by
    rw [wrap_small _ (by omega) (by rw [List.length_map, List.length_map]; omega), List.length_map, List.length_map, List.length_map, hlen]
    omega
  have H : Evt fun k => topiaristlaw01_LexRow.j0 k s (L.map tok) (R.map tok) (J.map tok) false 0 0 0 0 0 0 := by
    refine Evt.step (g := fun k => topiaristlaw01_LexRow.j1 k s (L.map tok) (R.map tok) (J.map tok) false) (fun k => ?_) (Evt.step (fun k => ?_) hloop)
    · simp only [topiaristlaw01_LexRow.j0]
      rw [if_neg (by decide), if_pos trivial, if_pos trivial, hw, show (((J.map tok).length : Int) != ((J.map tok).length : Int)) = false from by simp]
    · simp only [topiaristlaw01_LexRow.j1]
      rw [if_neg (by decide)]
      rfl
  have hf := fun k => row_f k s t h (L.map tok) (R.map tok) (J.map tok) 0 0 0 0 0 0 (tokF_ok s (by omega) L hS) (tokF_ok t (by omega) R hT) (tokF_ok _ (by omega) J hJ) false (by decide)
  obtain ⟨K, hK⟩ := H
  exact ⟨K, fun k hk => (hf k).trans (hK k hk)⟩
theorem LexRow : topiaristlaw01_LexRow.Pure := by
  intro s t hs0 ht0
  by_cases hbig : (s.size : Int) + (t.size : Int) > 1990
  · refine ⟨0, ?_⟩
    have hws : wrap64 ((s.size : Int) + (t.size : Int)) = (s.size : Int) + (t.size : Int) := by unfold wrap64; omega
    unfold topiaristlaw01_LexRow.f
    rw [hws, if_pos hbig, wakes_true]
    rfl
  · have h : (s.size : Int) + (t.size : Int) ≤ 1990 := by omega
    cases hS : LexSpec.tokens s with
    | error e => exact (row_err1 s t h e hS).get
    | ok L =>
      cases hT : LexSpec.tokens t with
      | error e => exact (row_err2 s t h L hS e hT).get
      | ok R => exact (row_ok s t h L R hS hT).get
end Go.Proofs.Ytfbncmcibfkfiaa.Pure
