/- Alts' answer is the reading by steps. -/
import Derived.Test.YtilldpmlcgikdaaReadAlts
set_option linter.unusedVariables false
set_option linter.unusedSimpArgs false
namespace Go.Proofs.Ytilldpmlcgikdaa.P
open Go.RowKit Go.Proofs.YtilldpmlcgikdaaW.PrintWords Go.Proofs.YtilldpmlcgikdaaW.PrintLast Go.Proofs.YtilldpmlcgikdaaW.PrintMore Go.Proofs.Ytilldpmlcgikdaa.Base
abbrev TkOf : Tok → Int := fun t => t.f0
abbrev TaOf : Tok → Int := fun t => t.f2
abbrev rrun (e : Int) (s : RS.St Tok × RS.Out Tok) (l : List Tok) := RS.run TkOf TaOf e s l
def altOf (p : Tok × List Tok) : S40 := ⟨p.1, p.2⟩
theorem rrun_cons (e : Int) (s : RS.St Tok × RS.Out Tok) (t : Tok) (l : List Tok) : rrun e s (t :: l) = match RS.step TkOf TaOf s t with
    | .ok s' => rrun e s' l
    | .error p => .error p := by
  show RS.run _ _ _ _ _ = _
  unfold RS.run
  rw [RS.steps_cons]
  cases RS.step TkOf TaOf s t <;> rfl
theorem alt_run (x : Tok) (e : Int) (out : RS.Out Tok) (l : List Tok) : ∀ r, match altGo x e out.length l r with
    | .error p => rrun e (.body x r, out) l = .error p
    | .ok (r', t, l') => rrun e (.body x r, out) l = rrun e (if t.f0 = 4 then .body x [] else .start, out ++ [(x, r')]) l' := by
  induction l with
  | nil => intro r; simp [altGo, RS.run, RS.steps, RS.fin]
  | cons t l ih =>
    intro r
    rw [rrun_cons]
    simp only [altGo, RS.step]
    by_cases h12 : t.f0 = 1 ∨ t.f0 = 2
    · rw [if_pos h12, if_pos h12]
      exact ih (r ++ [t])
    · rw [if_neg h12, if_neg h12]
      by_cases h45 : t.f0 = 4 ∨ t.f0 = 5
      · rw [if_pos h45, if_pos h45]
        by_cases hc : 60 ≤ out.length ∨ 8 < r.length
        · rw [if_pos hc, if_pos hc]
        · rw [if_neg hc, if_neg hc]
      · rw [if_neg h45, if_neg h45]
theorem bars_run (x : Tok) (e : Int) (k : Nat) : ∀ (l : List Tok) (out : RS.Out Tok), l.length < k → match barsGo x e k l (out.map altOf) with
    | .error p => rrun e (.body x [], out) l = .error p
    | .ok (out', l') => ∃ o' : RS.Out Tok, out' = o'.map altOf ∧ o' ≠ [] ∧ rrun e (.body x [], out) l = rrun e (.start, o') l' := by
  induction k with
  | zero => intro l out h; omega
  | succ k ih =>
    intro l out hk
    have h1 := alt_run x e out l []
    have h2 := altGo_less x e out.length l []
    simp only [barsGo, List.length_map]
    cases ha : altGo x e out.length l [] with
    | error p => rw [ha] at h1; exact h1
    | ok q =>
      obtain ⟨r, t, l'⟩ := q
      rw [ha] at h1
      have h3 := h2 _ ha
      simp only at h1 h3 ⊢
      by_cases h4 : t.f0 = 4
      · rw [if_pos h4] at h1 ⊢
        have h5 := ih l' (out ++ [(x, r)]) (by omega)
        have e1 : (out ++ [(x, r)]).map altOf = out.map altOf ++ [⟨x, r⟩] := by simp [altOf]
        rw [e1] at h5
        rw [h1]
        exact h5
      · rw [if_neg h4] at h1 ⊢
        exact ⟨out ++ [(x, r)], by simp [altOf], by simp, h1⟩
theorem def_run (e : Int) (l : List Tok) (out : RS.Out Tok) (hn : l ≠ [] ∨ out = []) : match defGo e l (out.map altOf) with
    | .error p => rrun e (.start, out) l = .error p
    | .ok (out', l') => ∃ o' : RS.Out Tok, out' = o'.map altOf ∧ o' ≠ [] ∧ rrun e (.start, out) l = rrun e (.start, o') l' := by
  cases l with
  | nil =>
    rcases hn with hn | hn
    · exact absurd rfl hn
    · subst hn; rfl
  | cons t l =>
    rw [rrun_cons]
    simp only [defGo, RS.step]
    by_cases h1 : t.f0 = 1
    · rw [if_pos h1, if_pos h1]
      cases l with
      | nil => rfl
      | cons u l =>
        simp only
        rw [rrun_cons]
        simp only [RS.step]
        by_cases h3 : u.f0 = 3
        · rw [if_pos h3, if_pos h3]
          exact bars_run t e (l.length + 1) l out (Nat.lt_succ_self _)
        · rw [if_neg h3, if_neg h3]
    · rw [if_neg h1, if_neg h1]
theorem alts_run (e : Int) (k : Nat) : ∀ (l : List Tok) (out : RS.Out Tok), l.length < k → l ≠ [] → match altsGo e k l (out.map altOf) with
    | .error p => rrun e (.start, out) l = .error p
    | .ok out' => ∃ o' : RS.Out Tok, out' = o'.map altOf ∧ rrun e (.start, out) l = .ok o' := by
  induction k with
  | zero => intro l out h; omega
  | succ k ih =>
    intro l out hk hne
    have h1 := def_run e l out (Or.inl hne)
    have h2 := def_less e l (out.map altOf)
    simp only [altsGo]
    cases hd : defGo e l (out.map altOf) with
    | error p => rw [hd] at h1; exact h1
    | ok q =>
      obtain ⟨out', l'⟩ := q
      rw [hd] at h1
      have h3 := h2 _ hd
      obtain ⟨o', rfl, ho, hr⟩ := h1
      simp only at h3 ⊢
      by_cases hl : l' = []
      · rw [if_pos hl]
        subst hl
        exact ⟨o', rfl, by rw [hr]; show RS.run _ _ _ _ _ = _; simp [RS.run, RS.steps, RS.fin, ho]⟩
      · rw [if_neg hl, hr]
        exact ih l' o' (by omega) hl
end Go.Proofs.Ytilldpmlcgikdaa.P
