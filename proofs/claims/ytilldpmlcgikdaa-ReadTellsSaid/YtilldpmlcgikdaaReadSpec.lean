namespace Go.Proofs.Ytilldpmlcgikdaa.RS
/-- Where the reader is: ahead of a definition; behind its left side; within an alternative. -/
inductive St (τ : Type) where
  | start
  | named (t : τ)
  | body (t : τ) (r : List τ)
section
variable {τ : Type} (kd at_ : τ → Int)
abbrev Out (τ : Type) := List (τ × List τ)
def step (s : St τ × Out τ) (t : τ) : Except (Int × Int) (St τ × Out τ) :=
  match s.1 with
  | .start => if kd t = 1 then .ok (.named t, s.2) else .error (12, at_ t)
  | .named x => if kd t = 3 then .ok (.body x [], s.2) else .error (12, at_ t)
  | .body x r =>
    if kd t = 1 ∨ kd t = 2 then .ok (.body x (r ++ [t]), s.2)
    else if kd t = 4 ∨ kd t = 5 then
      if 60 ≤ s.2.length ∨ 8 < r.length then .error (14, at_ x)
      else .ok (if kd t = 4 then .body x [] else .start, s.2 ++ [(x, r)])
    else .error (12, at_ t)
def steps : St τ × Out τ → List τ → Except (Int × Int) (St τ × Out τ)
  | s, [] => .ok s
  | s, t :: l => match step kd at_ s t with
    | .ok s' => steps s' l
    | .error e => .error e
def fin (e : Int) (s : St τ × Out τ) : Except (Int × Int) (Out τ) :=
  match s.1 with
  | .start => if s.2 = [] then .error (12, e) else .ok s.2
  | _ => .error (12, e)
def run (e : Int) (s : St τ × Out τ) (l : List τ) : Except (Int × Int) (Out τ) :=
  match steps kd at_ s l with
  | .ok s' => fin e s'
  | .error x => .error x
theorem steps_cons (s : St τ × Out τ) (t : τ) (l : List τ) : steps kd at_ s (t :: l) = match step kd at_ s t with
    | .ok s' => steps kd at_ s' l
    | .error e => .error e := rfl
theorem steps_append (l m : List τ) : ∀ s, steps kd at_ s (l ++ m) = match steps kd at_ s l with
    | .ok s' => steps kd at_ s' m
    | .error e => .error e := by
  induction l with
  | nil => intro s; rfl
  | cons t l ih =>
    intro s
    simp only [List.cons_append, steps]
    cases step kd at_ s t with
    | ok s' => exact ih s'
    | error e => rfl
/-- Words within an alternative. -/
theorem steps_words (x : τ) (l : List τ) : ∀ (r : List τ) (out : Out τ), (∀ t ∈ l, kd t = 1 ∨ kd t = 2) → steps kd at_ (.body x r, out) l = .ok (.body x (r ++ l), out) := by
  induction l with
  | nil => intro r out _; simp [steps]
  | cons t l ih =>
    intro r out h
    have h1 := h t (by simp)
    simp only [steps, step, if_pos h1]
    rw [ih _ _ (fun y hy => h y (by simp [hy]))]
    simp
/-- An alternative's end. -/
theorem step_end (x t : τ) (r : List τ) (out : Out τ) (h : kd t = 4 ∨ kd t = 5) (h1 : out.length < 60) (h2 : r.length ≤ 8) :
    step kd at_ (.body x r, out) t = .ok (if kd t = 4 then .body x [] else .start, out ++ [(x, r)]) := by
  simp only [step]
  rw [if_neg (by omega), if_pos h, if_neg (by omega)]
/-- The state ahead of a definition stands just behind an end. -/
def isStart : St τ → Bool
  | .start => true
  | _ => false
theorem step_start (s s' : St τ × Out τ) (t : τ) (h : step kd at_ s t = .ok s') : isStart s'.1 = decide (kd t = 5) := by
  obtain ⟨st, out⟩ := s
  cases st with
  | start => simp only [step] at h; split at h <;> cases h; simp [isStart]; omega
  | named x => simp only [step] at h; split at h <;> cases h; simp [isStart]; omega
  | body x r =>
    simp only [step] at h
    split at h
    · cases h; simp [isStart]; omega
    · split at h
      · split at h
        · cases h
        · cases h
          rename_i h1 h2 h3
          by_cases h4 : kd t = 4
          · simp [isStart, h4]
          · simp [isStart, h4]; omega
      · cases h
/-- What was gathered stays ahead of what comes. -/
theorem step_out (s s' : St τ × Out τ) (t : τ) (h : step kd at_ s t = .ok s') : ∃ m, s'.2 = s.2 ++ m ∧ m.length = (if kd t = 4 ∨ kd t = 5 then 1 else 0) := by
  obtain ⟨st, out⟩ := s
  cases st with
  | start => simp only [step] at h; split at h <;> cases h; exact ⟨[], by simp, by rw [if_neg (by omega)]; rfl⟩
  | named x => simp only [step] at h; split at h <;> cases h; exact ⟨[], by simp, by rw [if_neg (by omega)]; rfl⟩
  | body x r =>
    simp only [step] at h
    split at h
    · cases h; exact ⟨[], by simp, by rw [if_neg (by omega)]; rfl⟩
    · split at h
      · split at h
        · cases h
        · cases h
          rename_i h1 h2 h3
          exact ⟨[(x, r)], rfl, by rw [if_pos h2]; rfl⟩
      · cases h
end
section
variable {τ : Type} (kd at_ : τ → Int)
def rights (out : Out τ) : Nat := (out.map fun p => p.2.length).sum
def count (k : Int) (l : List τ) : Nat := l.countP fun t => decide (kd t = k)
def weigh : St τ → Nat
  | .start => 0
  | .named _ => 1
  | .body _ r => r.length + 1
def lefts : St τ × Out τ → Prop
  | (.start, out) => ∀ p ∈ out, kd p.1 = 1
  | (.named x, out) => kd x = 1 ∧ ∀ p ∈ out, kd p.1 = 1
  | (.body x _, out) => kd x = 1 ∧ ∀ p ∈ out, kd p.1 = 1
theorem step_lefts (s s' : St τ × Out τ) (t : τ) (h : step kd at_ s t = .ok s') (hl : lefts kd s) : lefts kd s' := by
  obtain ⟨st, out⟩ := s
  cases st with
  | start => simp only [step] at h; split at h <;> cases h; rename_i h1; exact ⟨h1, hl⟩
  | named x => simp only [step] at h; split at h <;> cases h; exact hl
  | body x r =>
    simp only [step] at h
    split at h
    · cases h; exact hl
    · split at h
      · split at h
        · cases h
        · cases h
          have h3 : ∀ p ∈ out ++ [(x, r)], kd p.1 = 1 := by
            intro p hp
            rcases List.mem_append.1 hp with hp | hp
            · exact hl.2 p hp
            · simp only [List.mem_singleton] at hp; subst hp; exact hl.1
          by_cases h4 : kd t = 4
          · simp only [h4, if_true]; exact ⟨hl.1, h3⟩
          · simp only [h4, if_false]; exact h3
      · cases h
theorem step_counts (s s' : St τ × Out τ) (t : τ) (h : step kd at_ s t = .ok s') :
    (s'.2.length = s.2.length + (if kd t = 4 then 1 else 0) + (if kd t = 5 then 1 else 0)) ∧
    rights s'.2 + weigh s'.1 + (if kd t = 5 then 1 else 0) = rights s.2 + weigh s.1 + (if kd t = 1 then 1 else 0) + (if kd t = 2 then 1 else 0) := by
  obtain ⟨st, out⟩ := s
  cases st with
  | start =>
    simp only [step] at h
    split at h <;> cases h
    rename_i h1
    simp [weigh, h1]
  | named x =>
    simp only [step] at h
    split at h <;> cases h
    rename_i h1
    simp [weigh, h1]
  | body x r =>
    simp only [step] at h
    split at h
    · cases h
      rename_i h1
      rcases h1 with h1 | h1 <;> simp [weigh, h1] <;> omega
    · split at h
      · split at h
        · cases h
        · cases h
          rename_i h1 h2 h3
          rcases h2 with h2 | h2 <;> simp [weigh, h2, rights] <;> omega
      · cases h
theorem steps_counts (l : List τ) : ∀ (s s' : St τ × Out τ), steps kd at_ s l = .ok s' → lefts kd s →
    lefts kd s' ∧ s'.2.length = s.2.length + count kd 4 l + count kd 5 l ∧ rights s'.2 + weigh s'.1 + count kd 5 l = rights s.2 + weigh s.1 + count kd 1 l + count kd 2 l := by
  induction l with
  | nil => intro s s' h hl; cases h; simp [count, hl]
  | cons t l ih =>
    intro s s' h hl
    rw [steps_cons] at h
    cases hs : step kd at_ s t with
    | error e => rw [hs] at h; cases h
    | ok s₁ =>
      rw [hs] at h
      have h1 := step_counts kd at_ s s₁ t hs
      obtain ⟨h2, h3, h4⟩ := ih s₁ s' h (step_lefts kd at_ s s₁ t hs hl)
      have hc : ∀ k, count kd k (t :: l) = count kd k l + if kd t = k then 1 else 0 := fun k => by simp only [count, List.countP_cons, decide_eq_true_eq]
      rw [hc, hc, hc, hc]
      exact ⟨h2, by omega, by omega⟩
theorem run_ok {e : Int} {s : St τ × Out τ} {l : List τ} {a : Out τ} (h : run kd at_ e s l = .ok a) : steps kd at_ s l = .ok (.start, a) ∧ a ≠ [] := by
  unfold run at h
  cases hs : steps kd at_ s l with
  | error x => rw [hs] at h; cases h
  | ok s' =>
    rw [hs] at h
    obtain ⟨st, out⟩ := s'
    cases st with
    | start =>
      simp only [fin] at h
      split at h
      · cases h
      · cases h; rename_i h1; exact ⟨rfl, h1⟩
    | named x => simp [fin] at h
    | body x r => simp [fin] at h
theorem run_counts {e : Int} {l : List τ} {a : Out τ} (h : run kd at_ e (.start, []) l = .ok a) :
    (∀ p ∈ a, kd p.1 = 1) ∧ a.length = count kd 4 l + count kd 5 l ∧ rights a + count kd 5 l = count kd 1 l + count kd 2 l := by
  obtain ⟨h1, _⟩ := run_ok kd at_ h
  have := steps_counts kd at_ l _ _ h1 (by intro p hp; cases hp)
  obtain ⟨h2, h3, h4⟩ := this
  simp [rights, weigh] at h3 h4 ⊢
  exact ⟨fun a b h => h2 (a, b) h, h3, h4⟩
theorem steps_grow (l : List τ) : ∀ (s s' : St τ × Out τ), steps kd at_ s l = .ok s' → s.2.length ≤ s'.2.length := by
  induction l with
  | nil => intro s s' h; cases h; exact Nat.le_refl _
  | cons t l ih =>
    intro s s' h
    rw [steps_cons] at h
    cases hs : step kd at_ s t with
    | error e => rw [hs] at h; cases h
    | ok s₁ =>
      rw [hs] at h
      have := step_counts kd at_ s s₁ t hs
      have := ih _ _ h
      omega
/-- Ahead of more alternatives: the same, where all are few enough. -/
theorem step_ahead (a : Out τ) (s s' : St τ × Out τ) (t : τ) (h : step kd at_ s t = .ok s') (hn : a.length + s'.2.length ≤ 60) : step kd at_ (s.1, a ++ s.2) t = .ok (s'.1, a ++ s'.2) := by
  obtain ⟨st, out⟩ := s
  cases st with
  | start => simp only [step] at h ⊢; split at h <;> cases h; rw [if_pos (by assumption)]
  | named x => simp only [step] at h ⊢; split at h <;> cases h; rw [if_pos (by assumption)]
  | body x r =>
    simp only [step] at h ⊢
    split at h
    · cases h; rw [if_pos (by assumption)]
    · rw [if_neg (by assumption)]
      split at h
      · rw [if_pos (by assumption)]
        split at h
        · cases h
        · cases h
          simp at hn
          rw [if_neg (by simp; omega)]
          simp
      · cases h
theorem steps_ahead (a : Out τ) (l : List τ) : ∀ (s s' : St τ × Out τ), steps kd at_ s l = .ok s' → a.length + s'.2.length ≤ 60 → steps kd at_ (s.1, a ++ s.2) l = .ok (s'.1, a ++ s'.2) := by
  induction l with
  | nil => intro s s' h _; cases h; rfl
  | cons t l ih =>
    intro s s' h hn
    rw [steps_cons] at h ⊢
    cases hs : step kd at_ s t with
    | error e => rw [hs] at h; cases h
    | ok s₁ =>
      rw [hs] at h
      have := steps_grow kd at_ l _ _ h
      rw [step_ahead kd at_ a s s₁ t hs (by omega)]
      exact ih s₁ s' h hn
/-- Ahead of more alternatives: a fault is the same, or they are too many. -/
theorem step_ahead_err (a : Out τ) (s : St τ × Out τ) (t : τ) : (∃ p, step kd at_ (s.1, a ++ s.2) t = .error (14, p)) ∨ step kd at_ (s.1, a ++ s.2) t = (match step kd at_ s t with | .ok s' => .ok (s'.1, a ++ s'.2) | .error e => .error e) := by
  obtain ⟨st, out⟩ := s
  cases st with
  | start => right; simp only [step]; split <;> rfl
  | named x => right; simp only [step]; split <;> rfl
  | body x r =>
    simp only [step]
    split
    · right; rfl
    · split
      · by_cases h1 : 60 ≤ (a ++ out).length ∨ 8 < r.length
        · left; exact ⟨_, by rw [if_pos h1]⟩
        · right
          rw [if_neg h1, if_neg (show ¬ (60 ≤ List.length out ∨ 8 < r.length) from fun hh => h1 (by rw [List.length_append]; omega))]
          simp
      · right; rfl
theorem steps_ahead_err (a : Out τ) (l : List τ) : ∀ (s : St τ × Out τ), (∃ p, steps kd at_ (s.1, a ++ s.2) l = .error (14, p)) ∨ steps kd at_ (s.1, a ++ s.2) l = (match steps kd at_ s l with | .ok s' => .ok (s'.1, a ++ s'.2) | .error e => .error e) := by
  induction l with
  | nil => intro s; right; rfl
  | cons t l ih =>
    intro s
    rw [steps_cons, steps_cons]
    rcases step_ahead_err kd at_ a s t with ⟨p, hp⟩ | hp
    · left; exact ⟨p, by rw [hp]⟩
    · rw [hp]
      cases hs : step kd at_ s t with
      | error e => right; rfl
      | ok s₁ => exact ih s₁
/-- Where the reader is behind some tokens. -/
theorem steps_where (l : List τ) (t : τ) : ∀ (s s' : St τ × Out τ), steps kd at_ s (l ++ [t]) = .ok s' → isStart s'.1 = decide (kd t = 5) ∧ (kd t = 5 → s'.2 ≠ []) := by
  intro s s' h
  rw [steps_append] at h
  cases hs : steps kd at_ s l with
  | error e => rw [hs] at h; cases h
  | ok s₁ =>
    rw [hs] at h
    simp only [steps] at h
    cases hs2 : step kd at_ s₁ t with
    | error e => rw [hs2] at h; cases h
    | ok s₂ =>
      rw [hs2] at h
      cases h
      refine ⟨step_start kd at_ _ _ _ hs2, fun h5 => ?_⟩
      have := (step_counts kd at_ _ _ _ hs2).1
      intro h0
      rw [h0] at this
      simp [h5] at this
/-- The tokens of a definition of one alternative. -/
def toks (is_ end_ : τ) (x : τ × List τ) : List τ := x.1 :: is_ :: (x.2 ++ [end_])
theorem steps_toks (is_ end_ : τ) (x : τ × List τ) (out : Out τ) (hi : kd is_ = 3) (he : kd end_ = 5) (h1 : kd x.1 = 1) (hw : ∀ t ∈ x.2, kd t = 1 ∨ kd t = 2) (h2 : x.2.length ≤ 8) (h3 : out.length < 60) :
    steps kd at_ (.start, out) (toks is_ end_ x) = .ok (.start, out ++ [x]) := by
  unfold toks
  rw [steps_cons]
  simp only [step, if_pos h1]
  rw [steps_cons]
  simp only [step, if_pos hi]
  rw [steps_append, steps_words kd at_ _ _ _ _ hw]
  simp only [List.nil_append, steps]
  rw [step_end kd at_ _ _ _ _ (Or.inr he) h3 h2]
  simp [he]
theorem steps_defs (is_ end_ : τ) (L : Out τ) (hi : kd is_ = 3) (he : kd end_ = 5) : ∀ (out : Out τ), (∀ x ∈ L, kd x.1 = 1 ∧ (∀ t ∈ x.2, kd t = 1 ∨ kd t = 2) ∧ x.2.length ≤ 8) → out.length + L.length ≤ 60 →
    steps kd at_ (.start, out) (L.flatMap (toks is_ end_)) = .ok (.start, out ++ L) := by
  induction L with
  | nil => intro out _ _; simp [steps]
  | cons x L ih =>
    intro out h hn
    obtain ⟨h1, h2, h3⟩ := h x (by simp)
    simp only [List.length_cons] at hn
    rw [List.flatMap_cons, steps_append, steps_toks kd at_ is_ end_ x out hi he h1 h2 h3 (by omega)]
    simp only
    rw [ih _ (fun y hy => h y (by simp [hy])) (by simp; omega)]
    simp
/-- A definition that has not ended. -/
theorem steps_open (is_ : τ) (x : τ × List τ) (out : Out τ) (hi : kd is_ = 3) (h1 : kd x.1 = 1) (hw : ∀ t ∈ x.2, kd t = 1 ∨ kd t = 2) :
    steps kd at_ (.start, out) (x.1 :: is_ :: x.2) = .ok (.body x.1 x.2, out) := by
  rw [steps_cons]
  simp only [step, if_pos h1]
  rw [steps_cons]
  simp only [step, if_pos hi]
  rw [steps_words kd at_ _ _ _ _ hw]
  simp
/-- Alternatives with bars between. -/
def bars (bar : τ) : List (List τ) → List τ
  | [] => []
  | [r] => r
  | r :: l => r ++ bar :: bars bar l
theorem steps_bars (bar end_ x : τ) (hb : kd bar = 4) (he : kd end_ = 5) : ∀ (L : List (List τ)) (out : Out τ), L ≠ [] → (∀ r ∈ L, (∀ t ∈ r, kd t = 1 ∨ kd t = 2) ∧ r.length ≤ 8) → out.length + L.length ≤ 60 →
    steps kd at_ (.body x [], out) (bars bar L ++ [end_]) = .ok (.start, out ++ L.map fun r => (x, r)) := by
  intro L
  induction L with
  | nil => intro out h; exact absurd rfl h
  | cons r L ih =>
    intro out _ h hn
    obtain ⟨h1, h2⟩ := h r (by simp)
    simp only [List.length_cons] at hn
    cases L with
    | nil =>
      simp only [bars]
      rw [steps_append, steps_words kd at_ _ _ _ _ h1]
      simp only [List.nil_append, steps]
      rw [step_end kd at_ _ _ _ _ (Or.inr he) (by omega) h2]
      simp [he]
    | cons r2 L =>
      have e : bars bar (r :: r2 :: L) ++ [end_] = r ++ (bar :: (bars bar (r2 :: L) ++ [end_])) := by simp [bars]
      rw [e, steps_append, steps_words kd at_ _ _ _ _ h1]
      simp only [List.nil_append]
      rw [steps_cons, step_end kd at_ _ _ _ _ (Or.inl hb) (by omega) h2]
      simp only [hb, if_true]
      rw [ih _ (by simp) (fun y hy => h y (by simp [hy])) (by simp at hn ⊢; omega)]
      simp
end
end Go.Proofs.Ytilldpmlcgikdaa.RS
