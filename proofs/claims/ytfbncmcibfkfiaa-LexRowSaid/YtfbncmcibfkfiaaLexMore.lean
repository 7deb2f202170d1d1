/- What is laid between two tokens changes none but its place; two lists with a newline between. No Go, no memory. -/
import Derived.Test.YtfbncmcibfkfiaaLexList
set_option linter.unusedVariables false
set_option linter.unusedSimpArgs false
namespace Go.Proofs.Ytfbncmcibfkfiaa.LexSpec
open Go.Proofs.YtfbncmcibfkfiaaW.PrintWords Go.Proofs.Ytfbncmcibfkfiaa.Base

theorem skip_split (b : Bool) (l y : List Int) (h : skip b l < l.length) : skip b (l.take (skip b l) ++ y) = skip b l + skip false y := by
  induction l generalizing b with
  | nil => simp at h
  | cons c cs ih =>
    cases b
    · simp only [skip] at h ⊢
      split
      · rename_i hc
        rw [if_pos hc] at h
        simp only [List.length_cons] at h
        rw [List.take_succ_cons, List.cons_append, skip, if_pos hc, ih false (by omega)]
        omega
      · rename_i hc
        rw [if_neg hc] at h
        split
        · rename_i h35
          rw [if_pos h35] at h
          simp only [List.length_cons] at h
          rw [List.take_succ_cons, List.cons_append, skip, if_neg hc, if_pos h35, ih true (by omega)]
          omega
        · simp
    · simp only [skip] at h ⊢
      split
      · rename_i hc
        rw [if_pos hc] at h
        simp only [List.length_cons] at h
        rw [List.take_succ_cons, List.cons_append, skip, if_pos hc, ih false (by omega)]
        omega
      · rename_i hc
        rw [if_neg hc] at h
        simp only [List.length_cons] at h
        rw [List.take_succ_cons, List.cons_append, skip, if_neg hc, ih true (by omega)]
        omega
theorem skip_stop (b : Bool) (l : List Int) (h : skip b l < l.length) : skip false (l.drop (skip b l)) = 0 := by
  induction l generalizing b with
  | nil => simp at h
  | cons c cs ih =>
    cases b
    · simp only [skip] at h ⊢
      split
      · rename_i hc
        rw [if_pos hc] at h
        rw [List.drop_succ_cons]
        exact ih false (by simp at h; omega)
      · rename_i hc
        rw [if_neg hc] at h
        split
        · rename_i h35
          rw [if_pos h35] at h
          rw [List.drop_succ_cons]
          exact ih true (by simp at h; omega)
        · rename_i h35
          rw [List.drop_zero, skip, if_neg hc, if_neg h35]
    · simp only [skip] at h ⊢
      split
      · rename_i hc
        rw [if_pos hc] at h
        rw [List.drop_succ_cons]
        exact ih false (by simp at h; omega)
      · rename_i hc
        rw [if_neg hc] at h
        rw [List.drop_succ_cons]
        exact ih true (by simp at h; omega)
theorem skip_head (c : Int) (cs ds : List Int) (h : skip false (c :: cs) = 0) : skip false (c :: ds) = 0 := by
  simp only [skip] at h ⊢
  split at h
  · omega
  · rename_i hc
    rw [if_neg hc]
    split at h
    · omega
    · rename_i h35
      rw [if_neg h35]
theorem run_local (p : Int → Bool) (l r : List Int) (n : Nat) (h : run p l = n) (hr : r = [] ∨ p (r.getD 0 0) = false) : run p (l.take n ++ r) = n := by
  have hle := run_le p l
  have hlt : (l.take n).length = n := by rw [List.length_take]; omega
  refine run_eq p _ n (fun j hj => ?_) (by rw [List.length_append]; omega) (fun h2 => ?_)
  · have := run_lt p l j (by omega)
    rw [List.getD_eq_getElem?_getD, List.getElem?_append_left (by omega), List.getElem?_take_of_lt hj, ← List.getD_eq_getElem?_getD]
    exact this
  · rcases hr with rfl | hr
    · rw [List.append_nil, hlt] at h2; omega
    · rw [List.getD_eq_getElem?_getD, List.getElem?_append_right (by omega), hlt, Nat.sub_self, ← List.getD_eq_getElem?_getD]
      exact hr
/-- A token hangs on its own bytes alone, and, if it is a name, on what does not go on with it. -/
theorem token_local (c : Int) (cs r : List Int) (kd : Int) (a b n : Nat) (h : token (c :: cs) = some (kd, a, b, n)) (hr : kd = 1 → r = [] ∨ inner (r.getD 0 0) = false) : token ((c :: cs).take n ++ r) = some (kd, a, b, n) := by
  have hn := token_some _ _ _ _ _ h
  obtain ⟨n', rfl⟩ : ∃ m, n = m + 1 := ⟨n - 1, by omega⟩
  rw [List.take_succ_cons, List.cons_append]
  simp only [token] at h ⊢
  by_cases hl : letter c = true
  · rw [if_pos hl] at h ⊢
    split at h
    · rename_i hi
      simp only [Option.some.injEq, Prod.mk.injEq] at h
      obtain ⟨rfl, rfl, rfl, h4⟩ := h
      have hrl := run_local inner (c :: cs) r (n' + 1) h4 (hr rfl)
      rw [List.take_succ_cons, List.cons_append] at hrl
      rw [hrl]
      have hlen : (cs.take n').length = n' := by rw [List.length_take]; simp at hn; omega
      have htk : (c :: (cs.take n' ++ r)).take (n' + 1) = (c :: cs).take (n' + 1) := by
        rw [List.take_succ_cons, List.take_succ_cons, List.take_append_of_le_length (by omega), List.take_take, Nat.min_self]
      rw [htk, ← h4, if_pos hi]
    · cases h
  · rw [if_neg hl] at h ⊢
    by_cases hq : (c == 39) = true
    · rw [if_pos hq] at h ⊢
      split at h
      · rename_i hi
        simp only [Option.some.injEq, Prod.mk.injEq] at h
        obtain ⟨rfl, rfl, rfl, h4⟩ := h
        simp only [Bool.and_eq_true, decide_eq_true_eq, beq_iff_eq] at hi
        obtain ⟨hi1, hi2, hi3⟩ := hi
        have hk : run inside (cs.take n' ++ r) = run inside cs := by
          refine run_eq inside _ _ (fun j hj => ?_) (by rw [List.length_append, List.length_take]; omega) (fun _ => ?_)
          · have := run_lt inside cs j hj
            rw [List.getD_eq_getElem?_getD, List.getElem?_append_left (by rw [List.length_take]; omega), List.getElem?_take_of_lt (by omega), ← List.getD_eq_getElem?_getD]
            exact this
          · rw [List.getD_eq_getElem?_getD, List.getElem?_append_left (by rw [List.length_take]; omega), List.getElem?_take_of_lt (by omega), ← List.getD_eq_getElem?_getD, hi3]
            rfl
        rw [hk]
        have htk : (cs.take n' ++ r).take (run inside cs) = cs.take (run inside cs) := by
          rw [List.take_append_of_le_length (by rw [List.length_take]; omega), List.take_take, Nat.min_eq_left (by omega)]
        have hg : (cs.take n' ++ r).getD (run inside cs) 0 = 39 := by
          rw [List.getD_eq_getElem?_getD, List.getElem?_append_left (by rw [List.length_take]; omega), List.getElem?_take_of_lt (by omega), ← List.getD_eq_getElem?_getD, hi3]
        rw [htk, hg, hi1, decide_eq_true (by rw [List.length_append, List.length_take]; omega)]
        simp
        omega
      · cases h
    · rw [if_neg hq] at h ⊢
      exact h
def shift (d : Nat) (t : Tk) : Tk := (t.1, t.2.1, t.2.2 + d)
def shiftR (d : Nat) : Except Nat (List Tk) → Except Nat (List Tk)
  | .ok l => .ok (l.map (shift d))
  | .error e => .error (e + d)
theorem scan_shift (k pos d : Nat) (l : List Int) : scan k (pos + d) l = shiftR d (scan k pos l) := by
  induction k generalizing pos l with
  | zero => rfl
  | succ k ih =>
    simp only [scan]
    cases hd : l.drop (skip false l) with
    | nil => rfl
    | cons c cs =>
      cases ht : token (c :: cs) with
      | none => simp only [ht, shiftR]; congr 1; omega
      | some q =>
        obtain ⟨kd, a, b, n⟩ := q
        simp only [ht]
        have := ih (pos + skip false l + n) ((c :: cs).drop n)
        rw [show pos + d + skip false l + n = pos + skip false l + n + d from by omega, this]
        cases scan k (pos + skip false l + n) ((c :: cs).drop n) with
        | ok r => simp [ahead, shiftR, shift]; omega
        | error e => rfl
theorem all_shift (pos d : Nat) (l : List Int) : all (pos + d) l = shiftR d (all pos l) := scan_shift _ _ _ _
/-- What all tokens begin with. -/
theorem all_cons (pos : Nat) (w : List Int) (t : Tk) (R : List Tk) (h : all pos w = .ok (t :: R)) : ∃ c cs kd a b n, w.drop (skip false w) = c :: cs ∧ token (c :: cs) = some (kd, a, b, n) ∧ t = (kd, ((c :: cs).take b).drop a, pos + skip false w) ∧ all (pos + skip false w + n) ((c :: cs).drop n) = .ok R := by
  cases hd : w.drop (skip false w) with
  | nil =>
    have hlen := congrArg List.length hd
    rw [List.length_drop] at hlen
    have := skip_le false w
    rw [all_nil pos w (by simp at hlen; omega)] at h
    cases h
  | cons c cs =>
    cases ht : token (c :: cs) with
    | none => rw [all_none pos w c cs hd ht] at h; cases h
    | some q =>
      obtain ⟨kd, a, b, n⟩ := q
      rw [all_some pos w c cs hd kd a b n ht] at h
      cases hr : all (pos + skip false w + n) ((c :: cs).drop n) with
      | error e => rw [hr] at h; cases h
      | ok R' =>
        rw [hr] at h
        simp only [ahead, Except.ok.injEq, List.cons.injEq] at h
        exact ⟨c, cs, kd, a, b, n, rfl, ht, h.1.symm, by rw [hr, h.2]⟩
theorem all_from (pos : Nat) (w : List Int) (L : List Tk) (h : all pos w = .ok L) (k : Nat) (t : Tk) (hk : L[k]? = some t) : pos ≤ t.2.2 ∧ t.2.2 ≤ pos + w.length := by
  induction k generalizing pos w L with
  | zero =>
    cases L with
    | nil => cases hk
    | cons t' R =>
      obtain ⟨c, cs, kd, a, b, n, hd, ht, he, hr⟩ := all_cons pos w t' R h
      simp at hk
      subst hk
      subst he
      have := skip_le false w
      simp; omega
  | succ k ih =>
    cases L with
    | nil => cases hk
    | cons t' R =>
      obtain ⟨c, cs, kd, a, b, n, hd, ht, he, hr⟩ := all_cons pos w t' R h
      have hn := token_some _ _ _ _ _ ht
      have hlen := congrArg List.length hd
      rw [List.length_drop] at hlen
      have := ih _ _ R hr (by simpa using hk)
      rw [List.length_drop] at this
      omega
/-- What stands between tokens by itself. -/
def Closed (x : List Int) : Prop := (∀ v, skip false (x ++ v) = x.length + skip false v) ∧ (x = [] ∨ inner (x.getD 0 0) = false)
theorem insert_all (x : List Int) (hx : Closed x) (k : Nat) : ∀ (pos : Nat) (w : List Int) (L : List Tk) (t : Tk), all pos w = .ok L → L[k]? = some t →
    all pos (w.take (t.2.2 - pos) ++ (x ++ w.drop (t.2.2 - pos))) = .ok (L.take k ++ (L.drop k).map (shift x.length)) := by
  induction k with
  | zero =>
    intro pos w L t h hk
    cases L with
    | nil => cases hk
    | cons t' R =>
      obtain ⟨c, cs, kd, a, b, n, hd, ht, he, hr⟩ := all_cons pos w t' R h
      simp at hk
      subst hk
      have hsk := skip_le false w
      have hlen := congrArg List.length hd
      rw [List.length_drop] at hlen
      have hlt : skip false w < w.length := by simp at hlen; omega
      have hst := skip_stop false w hlt
      generalize hm : skip false w = m at *
      have hp : t'.2.2 - pos = m := by rw [he]; simp
      rw [hp]
      have hs : skip false (w.take m ++ (x ++ w.drop m)) = m + x.length := by
        have := skip_split false w (x ++ w.drop m) (by omega)
        rw [hm] at this
        rw [this, hx.1, hst]
        omega
      have hdd : (w.take m ++ (x ++ w.drop m)).drop (m + x.length) = c :: cs := by
        rw [← hd, ← List.append_assoc, List.drop_append_of_le_length (by rw [List.length_append, List.length_take]; omega), List.drop_of_length_le (by rw [List.length_append, List.length_take]; omega), List.nil_append]
      rw [all_some pos _ c cs (by rw [hs]; exact hdd) kd a b n ht, hs, show pos + (m + x.length) + n = pos + m + n + x.length from by omega, all_shift, hr]
      simp [shiftR, ahead, he, shift]
      omega
  | succ k ih =>
    intro pos w L t h hk
    cases L with
    | nil => cases hk
    | cons t' R =>
      obtain ⟨c, cs, kd, a, b, n, hd, ht, he, hr⟩ := all_cons pos w t' R h
      have hk' : R[k]? = some t := by simpa using hk
      have hn := token_some _ _ _ _ _ ht
      have hsk := skip_le false w
      have hlen := congrArg List.length hd
      rw [List.length_drop] at hlen
      have hlt : skip false w < w.length := by simp at hlen; omega
      have hst := skip_stop false w hlt
      have hpos := all_from _ _ R hr k t hk'
      rw [List.length_drop] at hpos
      have IH := ih _ _ R t hr hk'
      have hsp := fun y => skip_split false w y hlt
      generalize hm : skip false w = m at *
      generalize hc' : t.2.2 - (pos + m + n) = q at *
      have hcut : t.2.2 - pos = m + n + q := by omega
      rw [hcut]
      have hw : w.drop (m + n + q) = ((c :: cs).drop n).drop q := by rw [← hd, List.drop_drop, List.drop_drop, Nat.add_assoc]
      have hwt : w.take (m + n + q) = w.take m ++ ((c :: cs).take n ++ ((c :: cs).drop n).take q) := by
        rw [← hd, ← List.take_append_drop m (w.take (m + n + q)), List.take_take, Nat.min_eq_left (by omega), List.drop_take, show m + n + q - m = n + q from by omega, List.take_add]
      rw [hw, hwt]
      generalize hrr : ((c :: cs).drop n).take q ++ (x ++ ((c :: cs).drop n).drop q) = r at *
      have hre : w.take m ++ ((c :: cs).take n ++ ((c :: cs).drop n).take q) ++ (x ++ ((c :: cs).drop n).drop q) = w.take m ++ ((c :: cs).take n ++ r) := by
        rw [← hrr]; simp only [List.append_assoc]
      rw [hre]
      obtain ⟨n', rfl⟩ : ∃ z, n = z + 1 := ⟨n - 1, by omega⟩
      have hy : (c :: cs).take (n' + 1) ++ r = c :: (cs.take n' ++ r) := by rw [List.take_succ_cons, List.cons_append]
      have hs : skip false (w.take m ++ ((c :: cs).take (n' + 1) ++ r)) = m := by
        rw [hsp, hy, skip_head c cs _ (by rw [← hd]; exact hst)]
        omega
      have hdd : (w.take m ++ ((c :: cs).take (n' + 1) ++ r)).drop m = c :: (cs.take n' ++ r) := by
        rw [List.drop_append_of_le_length (by rw [List.length_take]; omega), List.drop_of_length_le (by rw [List.length_take]; omega), List.nil_append, hy]
      have htl : token (c :: (cs.take n' ++ r)) = some (kd, a, b, n' + 1) := by
        rw [← hy]
        refine token_local c cs r kd a b (n' + 1) ht (fun h1 => ?_)
        have hend : ((c :: cs).drop (n' + 1)) ≠ [] → inner (((c :: cs).drop (n' + 1)).getD 0 0) = false := by
          intro hne
          subst h1
          have hrun : run inner (c :: cs) = n' + 1 := by
            simp only [token] at ht
            split at ht
            · split at ht
              · simp only [Option.some.injEq, Prod.mk.injEq] at ht; exact ht.2.2.2
              · cases ht
            · split at ht
              · split at ht
                · simp only [Option.some.injEq, Prod.mk.injEq] at ht; exact absurd ht.1 (by decide)
                · cases ht
              · split at ht
                · simp only [Option.some.injEq, Prod.mk.injEq] at ht
                  have := ht.1
                  unfold sign at this
                  split at this
                  · exact absurd this (by decide)
                  · split at this
                    · exact absurd this (by decide)
                    · split at this <;> exact absurd this (by decide)
                · cases ht
          have hl : n' + 1 < (c :: cs).length := by
            rcases Nat.lt_or_ge (n' + 1) (c :: cs).length with h | h
            · exact h
            · exact absurd (List.drop_of_length_le h) hne
          have := run_end inner (c :: cs) (by rw [hrun]; exact hl)
          rw [hrun] at this
          rwa [List.getD_eq_getElem?_getD, List.getElem?_drop, ← List.getD_eq_getElem?_getD, Nat.add_zero]
        have hne : (c :: cs).drop (n' + 1) ≠ [] := by
          intro h0
          rw [h0] at hr
          rw [all_nil _ [] rfl] at hr
          injection hr with hr
          subst hr
          cases hk'
        right
        rw [← hrr]
        cases q with
        | zero =>
          simp only [List.take_zero, List.nil_append, List.drop_zero]
          rcases hx.2 with rfl | hx2
          · exact hend hne
          · cases x with
            | nil => exact hend hne
            | cons z zs => simpa using hx2
        | succ q =>
          cases hdn : (c :: cs).drop (n' + 1) with
          | nil => exact absurd hdn hne
          | cons z zs =>
            have := hend hne
            rw [hdn] at this
            simpa using this
      have hdn : (c :: (cs.take n' ++ r)).drop (n' + 1) = r := by
        rw [← hy, List.drop_append_of_le_length (by rw [List.length_take]; omega), List.drop_of_length_le (by rw [List.length_take]; omega), List.nil_append]
      have htx : ((c :: (cs.take n' ++ r)).take b).drop a = ((c :: cs).take b).drop a := by
        rw [← hy, List.take_append_of_le_length (by rw [List.length_take]; omega), List.take_take, Nat.min_eq_left (by omega)]
      rw [all_some pos _ c _ (by rw [hs]; exact hdd) kd a b (n' + 1) htl, hs, hdn, IH, htx]
      simp [ahead, he]
end Go.Proofs.Ytfbncmcibfkfiaa.LexSpec
