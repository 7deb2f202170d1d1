namespace Go.Proofs.Ytbpjlpokmnmmmaa.CG
/-- What is led to from some ones, by none or more steps. -/
inductive Star (adj : Nat → List Nat) (S : List Nat) : Nat → Prop
  | base {a} : a ∈ S → Star adj S a
  | next {a b} : Star adj S a → b ∈ adj a → Star adj S b
theorem Star.mono {adj : Nat → List Nat} {S T : List Nat} (h : ∀ a ∈ S, Star adj T a) {a : Nat} (ha : Star adj S a) : Star adj T a := by
  induction ha with
  | base h1 => exact h _ h1
  | next _ h2 ih => exact .next ih h2
/-- It is met, if it was not. -/
def mark (s : List Nat × List Bool) (b : Nat) : List Nat × List Bool :=
  if s.2.getD b true = false then (s.1 ++ [b], s.2.set b true) else s
/-- All that is met, in the order in which it is taken up. -/
def bfo (adj : Nat → List Nat) : Nat → List Nat → List Bool → List Nat → Option (List Nat)
  | 0, _, _, _ => none
  | _ + 1, [], _, done => some done
  | k + 1, x :: q, out, done => let s := (adj x).foldl mark (q, out); bfo adj k s.1 s.2 (done ++ [x])
def falses (out : List Bool) : Nat := out.countP fun b => !b
theorem falses_set (out : List Bool) : ∀ (b : Nat), out.getD b true = false → falses (out.set b true) + 1 = falses out := by
  induction out with
  | nil => intro b h; simp at h
  | cons c out ih =>
    intro b h
    cases b with
    | zero => simp at h; subst h; simp [falses]
    | succ b =>
      simp only [List.getD_cons_succ] at h
      have := ih b h
      simp only [falses, List.set_cons_succ, List.countP_cons] at this ⊢
      omega
theorem getD_set (out : List Bool) (b c : Nat) (h : out.getD b true = false) : (out.set b true).getD c false = true ↔ (c = b ∨ out.getD c false = true) := by
  have hb : b < out.length := by
    rcases Nat.lt_or_ge b out.length with h1 | h1
    · exact h1
    · rw [List.getD_eq_getElem?_getD, List.getElem?_eq_none h1] at h; simp at h
  simp only [List.getD_eq_getElem?_getD, List.getElem?_set]
  by_cases e : b = c
  · subst e; simp [hb]
  · simp [e]; intro h; exact absurd h.symm e
theorem getD_ft (out : List Bool) (b : Nat) (h : b < out.length) : out.getD b true = false ↔ ¬ out.getD b false = true := by
  rw [List.getD_eq_getElem?_getD, List.getD_eq_getElem?_getD, List.getElem?_eq_getElem h]
  simp
theorem mark_len (s : List Nat × List Bool) (b : Nat) : (mark s b).1.length + falses (mark s b).2 = s.1.length + falses s.2 ∧ (mark s b).2.length = s.2.length := by
  unfold mark
  split
  · rename_i h
    have := falses_set s.2 b h
    simp; omega
  · exact ⟨rfl, rfl⟩
theorem marks_len (l : List Nat) : ∀ s, (l.foldl mark s).1.length + falses (l.foldl mark s).2 = s.1.length + falses s.2 ∧ (l.foldl mark s).2.length = s.2.length := by
  induction l with
  | nil => intro s; exact ⟨rfl, rfl⟩
  | cons e l ih =>
    intro s
    have h1 := mark_len s e
    have h2 := ih (mark s e)
    simp only [List.foldl_cons]
    omega
theorem bfo_some (adj : Nat → List Nat) : ∀ (k : Nat) (q : List Nat) (out : List Bool) (done : List Nat), q.length + falses out < k → ∃ r, bfo adj k q out done = some r := by
  intro k
  induction k with
  | zero => intro q out _ h; omega
  | succ k ih =>
    intro q out done h
    cases q with
    | nil => exact ⟨done, rfl⟩
    | cons x q =>
      have := marks_len (adj x) (q, out)
      simp only [List.length_cons] at h this
      exact ih _ _ _ (by omega)
/-- What all rounds keep: 'base' is what was met ahead of this one's neighbours. -/
def Met (adj : Nat → List Nat) (S : List Nat) (done q : List Nat) (out : List Bool) : Prop :=
  (done ++ q).Nodup ∧ (∀ b, b ∈ done ++ q ↔ out.getD b false = true) ∧ (∀ b ∈ done ++ q, Star adj S b)
theorem mark_met {adj : Nat → List Nat} {S done q : List Nat} {out : List Bool} {b : Nat} (h : Met adj S done q out) (hb : Star adj S b) :
    Met adj S done (mark (q, out) b).1 (mark (q, out) b).2 ∧ (∀ c, out.getD c false = true → (mark (q, out) b).2.getD c false = true) ∧ (b < out.length → (mark (q, out) b).2.getD b false = true) := by
  obtain ⟨h1, h2, h3⟩ := h
  unfold mark
  by_cases hv : out.getD b true = false
  · simp only [hv, if_true]
    have hg := fun c => getD_set out b c hv
    have hnb : ¬ out.getD b false = true := by
      have hlt : b < out.length := by
        rcases Nat.lt_or_ge b out.length with h1 | h1
        · exact h1
        · rw [List.getD_eq_getElem?_getD, List.getElem?_eq_none h1] at hv; simp at hv
      exact (getD_ft out b hlt).1 hv
    have hnm : b ∉ done ++ q := fun hm => hnb ((h2 b).1 hm)
    refine ⟨⟨?_, fun c => ?_, fun c hc => ?_⟩, fun c hc => (hg c).2 (Or.inr hc), fun _ => (hg b).2 (Or.inl rfl)⟩
    · rw [← List.append_assoc]
      refine List.nodup_append.2 ⟨h1, by simp, fun a ha c hc => ?_⟩
      simp only [List.mem_singleton] at hc
      rintro rfl
      subst hc
      exact hnm ha
    · rw [hg c, ← List.append_assoc, List.mem_append, List.mem_singleton, h2 c]
      exact Or.comm
    · rw [← List.append_assoc, List.mem_append, List.mem_singleton] at hc
      rcases hc with hc | rfl
      · exact h3 c hc
      · exact hb
  · simp only [hv]
    refine ⟨⟨h1, h2, h3⟩, fun c hc => hc, fun hlt => ?_⟩
    have := mt (getD_ft out b hlt).2 hv
    simpa using this
theorem marks_met {adj : Nat → List Nat} {S done : List Nat} (l : List Nat) : ∀ {q : List Nat} {out : List Bool}, Met adj S done q out → (∀ b ∈ l, Star adj S b) →
    Met adj S done (l.foldl mark (q, out)).1 (l.foldl mark (q, out)).2 ∧ (∀ c, out.getD c false = true → (l.foldl mark (q, out)).2.getD c false = true) ∧ (∀ b ∈ l, b < out.length → (l.foldl mark (q, out)).2.getD b false = true) := by
  induction l with
  | nil => intro q out h _; exact ⟨h, fun _ h => h, fun b hb => by cases hb⟩
  | cons e l ih =>
    intro q out h hl
    obtain ⟨h1, h2, h3⟩ := mark_met h (hl e (by simp))
    obtain ⟨h4, h5, h6⟩ := ih (q := (mark (q, out) e).1) (out := (mark (q, out) e).2) h1 (fun b hb => hl b (by simp [hb]))
    have hlen := (mark_len (q, out) e).2
    simp only [List.foldl_cons]
    refine ⟨h4, fun c hc => h5 c (h2 c hc), fun b hb hlt => ?_⟩
    rcases List.mem_cons.1 hb with rfl | hb
    · exact h5 _ (h3 hlt)
    · exact h6 b hb (by rw [hlen]; exact hlt)
theorem bfo_met {adj : Nat → List Nat} {S : List Nat} {n : Nat} : ∀ (k : Nat) (q done r : List Nat) (out : List Bool), out.length = n → Met adj S done q out → (∀ x ∈ done, ∀ z ∈ adj x, z < n → out.getD z false = true) → bfo adj k q out done = some r →
    r.Nodup ∧ (∀ b ∈ r, Star adj S b) ∧ (∀ b ∈ done ++ q, b ∈ r) ∧ (∀ x ∈ r, ∀ z ∈ adj x, z < n → z ∈ r) := by
  intro k
  induction k with
  | zero => intro q done r out _ _ _ h; cases h
  | succ k ih =>
    intro q done r out hn hm hd h
    cases q with
    | nil =>
      simp only [bfo, Option.some.injEq] at h
      subst h
      obtain ⟨h1, h2, h3⟩ := hm
      simp only [List.append_nil] at h1 h2 h3
      exact ⟨h1, h3, by simp, fun x hx z hz hlt => (h2 z).2 (hd x hx z hz hlt)⟩
    | cons x q =>
      simp only [bfo] at h
      obtain ⟨h1, h2, h3⟩ := hm
      have hS : Star adj S x := h3 x (by simp)
      have hm' : Met adj S (done ++ [x]) q out := by
        refine ⟨?_, fun b => ?_, fun b hb => ?_⟩
        · simpa [List.append_assoc] using h1
        · rw [← h2 b]; simp [List.append_assoc]
        · exact h3 b (by simpa [List.append_assoc] using hb)
      obtain ⟨h4, h5, h6⟩ := marks_met (adj x) hm' (fun b hb => Star.next hS hb)
      have hlen := (marks_len (adj x) (q, out)).2
      obtain ⟨h7, h8, h9, h10⟩ := ih _ (done ++ [x]) r _ (by rw [hlen]; exact hn) h4 (fun y hy z hz hlt => by
        rcases List.mem_append.1 hy with hy | hy
        · exact h5 z (hd y hy z hz hlt)
        · simp only [List.mem_singleton] at hy
          subst hy
          exact h6 z hz (by rw [hn]; exact hlt)) h
      refine ⟨h7, h8, fun b hb => ?_, h10⟩
      rcases List.mem_append.1 hb with hb | hb
      · exact h9 b (by simp [hb])
      · rcases List.mem_cons.1 hb with rfl | hb
        · exact h9 _ (by simp)
        · have : out.getD b false = true := (h2 b).1 (by simp [hb])
          have h11 := h5 b this
          exact h9 b ((h4.2.1 b).2 h11)
/-- The start: each is met once. -/
def starts (S : List Nat) (n : Nat) : List Nat × List Bool := S.foldl mark ([], List.replicate n false)
theorem bfo_star {adj : Nat → List Nat} {S : List Nat} {n k : Nat} {r : List Nat} (hS : ∀ s ∈ S, s < n) (hadj : ∀ x < n, ∀ z ∈ adj x, z < n) (h : bfo adj k (starts S n).1 (starts S n).2 [] = some r) :
    r.Nodup ∧ ∀ b, b ∈ r ↔ Star adj S b := by
  have hf : ∀ b, (List.replicate n false).getD b false = false := by
    intro b
    rw [List.getD_eq_getElem?_getD, List.getElem?_replicate]
    split <;> rfl
  have hm0 : Met adj S [] [] (List.replicate n false) := ⟨by simp, fun b => by rw [hf]; simp, fun b hb => by simp at hb⟩
  obtain ⟨h4, _, h6⟩ := marks_met (adj := adj) (S := S) S hm0 (fun b hb => .base hb)
  have hlen : (starts S n).2.length = n := by unfold starts; rw [(marks_len S _).2]; simp
  obtain ⟨h7, h8, h9, h10⟩ := bfo_met k _ [] r _ hlen h4 (fun x hx => by cases hx) h
  have hlt : ∀ b, Star adj S b → b < n := by
    intro b hb
    induction hb with
    | base h => exact hS _ h
    | next _ h2 ih => exact hadj _ ih _ h2
  refine ⟨h7, fun b => ⟨fun hb => h8 b hb, fun hb => ?_⟩⟩
  induction hb with
  | base hb => exact h9 _ ((h4.2.1 _).2 (h6 _ hb (by simpa using hS _ hb)))
  | next h1 h2 ih => exact h10 _ ih _ h2 (hadj _ (hlt _ h1) _ h2)
theorem bfo_starts_some (adj : Nat → List Nat) (S : List Nat) (n : Nat) : ∃ r, bfo adj (n + 1) (starts S n).1 (starts S n).2 [] = some r := by
  apply bfo_some
  have := (marks_len S ([], List.replicate n false)).1
  have h2 : falses (List.replicate n false) = n := by simp [falses, List.countP_replicate]
  unfold starts
  rw [this, h2]
  simp
end Go.Proofs.Ytbpjlpokmnmmmaa.CG
