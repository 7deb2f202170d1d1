/- close: what is closed, what its labels are, in plain words. -/
import Derived.Test.YtbpjlpokmnmmmaaVLabels
import Derived.Test.YtbpjlpokmnmmmaaVCKeep
set_option linter.unusedVariables false
set_option linter.unusedSimpArgs false
namespace Go.Proofs.Ytbpjlpokmnmmmaa.V
open Go Go.RowKit Go.Proofs.Ytbpjlpokmnmmmaa.CG
theorem bfo_len (adj : Nat → List Nat) : ∀ (k : Nat) (q : List Nat) (out : List Bool) (done r : List Nat), bfo adj k q out done = some r → r.length ≤ done.length + k := by
  intro k
  induction k with
  | zero => intro q out done r h; cases h
  | succ k ih =>
    intro q out done r h
    cases q with
    | nil => obtain rfl := Option.some.inj h; omega
    | cons x q =>
      have := ih _ _ _ _ h
      rw [List.length_append, List.length_singleton] at this
      omega
theorem clos_len (n : Net) (l : List Nat) : (clos n l).length ≤ n.length + 1 := by
  unfold clos
  rw [List.length_mergeSort]
  obtain ⟨r, hr⟩ := bfo_starts_some (adj n) l n.length
  rw [hr]
  have := bfo_len _ _ _ _ _ _ hr
  simpa using this
theorem up_eq : ∀ {a b : List Nat}, a.Pairwise (· < ·) → b.Pairwise (· < ·) → (∀ x, x ∈ a ↔ x ∈ b) → a = b := by
  intro a
  induction a with
  | nil =>
    intro b _ _ h
    cases b with
    | nil => rfl
    | cons y b => exact absurd ((h y).2 (by simp)) (by simp)
  | cons x a ih =>
    intro b ha hb h
    cases b with
    | nil => exact absurd ((h x).1 (by simp)) (by simp)
    | cons y b =>
      rw [List.pairwise_cons] at ha hb
      have e : x = y := by
        rcases List.mem_cons.1 ((h x).1 (by simp)) with e | e
        · exact e
        · rcases List.mem_cons.1 ((h y).2 (by simp)) with e2 | e2
          · exact e2.symm
          · have := ha.1 y e2; have := hb.1 x e; omega
      subst e
      rw [ih ha.2 hb.2 (fun z => ?_)]
      constructor
      · intro hz
        rcases List.mem_cons.1 ((h z).1 (by simp [hz])) with e | e
        · have := ha.1 z hz; omega
        · exact e
      · intro hz
        rcases List.mem_cons.1 ((h z).2 (by simp [hz])) with e | e
        · have := hb.1 z hz; omega
        · exact e
theorem sort_up {l : List Nat} (h : l.Nodup) : (l.mergeSort fun x y => decide (x ≤ y)).Pairwise (· < ·) := by
  have h1 : (l.mergeSort fun x y => decide (x ≤ y)).Pairwise (fun a b => decide (a ≤ b) = true) := List.pairwise_mergeSort (fun a b c => by simp; omega) (fun a b => by simp; omega) l
  have h2 : (l.mergeSort fun x y => decide (x ≤ y)).Nodup := (List.mergeSort_perm l _).nodup_iff.2 h
  refine List.Pairwise.imp₂ (fun a b h3 h4 => ?_) h1 h2
  have := of_decide_eq_true h3
  omega
def inN (n : Net) (l : List Nat) : Prop := ∀ s ∈ l, s < n.length
theorem adj_lt {n : Net} (hg : goodNet n = true) : ∀ x < n.length, ∀ z ∈ adj n x, z < n.length := by
  intro x hx z hz
  unfold adj adjL at hz
  obtain ⟨e, he, rfl⟩ := List.mem_map.1 hz
  have he := (List.mem_filter.1 he).1
  rw [List.getD_eq_getElem?_getD, List.getElem?_eq_getElem hx] at he
  have := (good_edges hg).2.2.2.1 _ (List.getElem_mem hx) e he
  omega
theorem clos_mem {n : Net} {l : List Nat} (hg : goodNet n = true) (hl : inN n l) : (clos n l).Pairwise (· < ·) ∧ ∀ b, b ∈ clos n l ↔ Star (adj n) l b := by
  obtain ⟨r, hr⟩ := bfo_starts_some (adj n) l n.length
  obtain ⟨h1, h2⟩ := bfo_star (S := l) (k := n.length + 1) hl (adj_lt hg) hr
  unfold clos
  rw [hr]
  refine ⟨sort_up h1, fun b => ?_⟩
  rw [List.mem_mergeSort]
  exact h2 b
theorem star_lt {n : Net} {l : List Nat} (hg : goodNet n = true) (hl : inN n l) {b : Nat} (h : Star (adj n) l b) : b < n.length := by
  induction h with
  | base h => exact hl _ h
  | next _ h2 ih => exact adj_lt hg _ ih _ h2
theorem clos_in {n : Net} {l : List Nat} (hg : goodNet n = true) (hl : inN n l) : inN n (clos n l) := fun s hs => star_lt hg hl (((clos_mem hg hl).2 s).1 hs)
theorem star_star {adj : Nat → List Nat} {S T : List Nat} (h : ∀ b, b ∈ T ↔ Star adj S b) {b : Nat} : Star adj T b ↔ Star adj S b := by
  constructor
  · intro hb
    induction hb with
    | base h1 => exact (h _).1 h1
    | next _ h2 ih => exact .next ih h2
  · intro hb
    exact .base ((h _).2 hb)
theorem clos_clos {n : Net} {l : List Nat} (hg : goodNet n = true) (hl : inN n l) : clos n (clos n l) = clos n l := by
  obtain ⟨h1, h2⟩ := clos_mem hg hl
  obtain ⟨h3, h4⟩ := clos_mem hg (clos_in hg hl)
  exact up_eq h3 h1 (fun x => by rw [h4, h2]; exact star_star h2)
theorem clos_has {n : Net} {l : List Nat} (hg : goodNet n = true) (hl : inN n l) : ∀ x ∈ l, x ∈ clos n l := fun x hx => ((clos_mem hg hl).2 x).2 (.base hx)
theorem clos_mono {n : Net} {l m : List Nat} (hg : goodNet n = true) (hl : inN n l) (hm : inN n m) (h : ∀ x ∈ l, x ∈ m) : ∀ x ∈ clos n l, x ∈ clos n m := fun x hx => ((clos_mem hg hm).2 x).2 (Star.mono (fun a ha => .base (h a ha)) (((clos_mem hg hl).2 x).1 hx))
theorem clos_union {n : Net} {l : List Nat} (hg : goodNet n = true) (hl : inN n l) (x : Nat) : x ∈ clos n l ↔ ∃ s ∈ l, x ∈ clos n [s] := by
  have one : ∀ s ∈ l, inN n [s] := fun s hs t ht => by rw [List.mem_singleton] at ht; subst ht; exact hl t hs
  constructor
  · intro hx0
    have hx := ((clos_mem hg hl).2 x).1 hx0
    clear hx0
    induction hx with
    | base h => exact ⟨_, h, clos_has hg (one _ h) _ (by simp)⟩
    | next _ h2 ih =>
      obtain ⟨s, hs, hy⟩ := ih
      exact ⟨s, hs, ((clos_mem hg (one s hs)).2 _).2 (.next (((clos_mem hg (one s hs)).2 _).1 hy) h2)⟩
  · rintro ⟨s, hs, hx⟩
    exact clos_mono hg (one s hs) hl (fun y hy => by rw [List.mem_singleton] at hy; subst hy; exact hs) x hx
theorem star_nil {adj : Nat → List Nat} {b : Nat} (h : Star adj [] b) : False := by
  induction h with
  | base h => cases h
  | next _ _ ih => exact ih
theorem clos_nil {n : Net} {l : List Nat} (hg : goodNet n = true) (hl : inN n l) : (clos n l = []) ↔ l = [] := by
  constructor
  · intro h
    cases l with
    | nil => rfl
    | cons x l => have := clos_has hg hl x (by simp); rw [h] at this; cases this
  · rintro rfl
    cases h : clos n [] with
    | nil => rfl
    | cons y r =>
      exfalso
      exact star_nil (((clos_mem hg hl).2 y).1 (by rw [h]; simp))
def ups (zs : Array Int) : Prop := ∀ i j : Nat, i ≤ j → j < zs.size → zs[i]! ≤ zs[j]!
theorem comp_mem (d : Array Int) : ∀ (m : Nat) (x : Int), x ∈ Lib.compactUpTo d m ↔ ∃ j < m, x = d[j]! := by
  intro m
  induction m with
  | zero => intro x; simp [Lib.compactUpTo]
  | succ m ih =>
    intro x
    rw [Lib.compactUpTo_succ, List.mem_append, ih]
    constructor
    · rintro (⟨j, hj, rfl⟩ | h)
      · exact ⟨j, by omega, rfl⟩
      · split at h
        · exact ⟨m, by omega, by simpa using h⟩
        · cases h
    · rintro ⟨j, hj, rfl⟩
      by_cases hjm : j < m
      · exact Or.inl ⟨j, hjm, rfl⟩
      · obtain rfl : j = m := by omega
        by_cases hk : Lib.keeps d j = true
        · rw [if_pos hk]; simp
        · left
          unfold Lib.keeps at hk
          simp at hk
          exact ⟨j - 1, by omega, hk.2⟩
theorem comp_up (d : Array Int) (h : ups d) : ∀ m, m ≤ d.size → (Lib.compactUpTo d m).Pairwise (· < ·) := by
  intro m
  induction m with
  | zero => intro _; simp [Lib.compactUpTo]
  | succ m ih =>
    intro hm
    rw [Lib.compactUpTo_succ]
    split
    · rename_i hk
      refine List.pairwise_append.2 ⟨ih (by omega), by simp, fun a ha b hb => ?_⟩
      obtain ⟨j, hj, rfl⟩ := (comp_mem d m a).1 ha
      obtain rfl := List.mem_singleton.1 hb
      unfold Lib.keeps at hk
      have hk := of_decide_eq_true hk
      have h1 := h j (m - 1) (by omega) (by omega)
      have h2 := h (m - 1) m (by omega) (by omega)
      rcases hk with e | e
      · omega
      · omega
    · rw [List.append_nil]; exact ih (by omega)
theorem sort_ups (l : List Nat) : ups ((l.mergeSort fun x y => decide (x ≤ y)).map fun (k : Nat) => (k : Int)).toArray := by
  have h1 : (l.mergeSort fun x y => decide (x ≤ y)).Pairwise (fun a b => decide (a ≤ b) = true) := List.pairwise_mergeSort (fun a b c => by simp; omega) (fun a b => by simp; omega) l
  generalize (l.mergeSort fun x y => decide (x ≤ y)) = z at h1
  intro i j hij hj
  simp only [List.size_toArray, List.length_map] at hj
  rw [getElem!_pos _ i (by simp; omega), getElem!_pos _ j (by simp; omega)]
  simp only [List.getElem_toArray, List.getElem_map]
  rcases Nat.lt_or_eq_of_le hij with h | h
  · have := of_decide_eq_true (List.pairwise_iff_getElem.1 h1 i j (by omega) hj h)
    omega
  · subst h; exact Int.le_refl _
theorem labels_mem (n : Net) (l : List Int) (x : Int) : x ∈ labels n l ↔ ∃ k ∈ labsOf n l, x = (k : Int) := by
  unfold labels Lib.compact
  rw [comp_mem]
  constructor
  · rintro ⟨j, hj, rfl⟩
    simp only [List.length_map] at hj
    rw [getElem!_pos _ j (by simpa using hj)]
    simp only [List.getElem_toArray, List.getElem_map]
    exact ⟨_, (List.mem_mergeSort).1 (List.getElem_mem hj), rfl⟩
  · rintro ⟨k, hk, rfl⟩
    obtain ⟨j, hj, e⟩ := List.getElem_of_mem ((List.mem_mergeSort (le := fun x y => decide (x ≤ y))).2 hk)
    refine ⟨j, by simpa using hj, ?_⟩
    rw [getElem!_pos _ j (by simpa using hj)]
    simp only [List.getElem_toArray, List.getElem_map, e]
theorem labels_up (n : Net) (l : List Int) : (labels n l).Pairwise (· < ·) := by
  unfold labels Lib.compact
  exact comp_up _ (sort_ups _) _ (by simp)
theorem labsOf_mem {n : Net} {l : List Int} (hg : goodNet n = true) (k : Nat) : k ∈ labsOf n l ↔ ∃ s ∈ l, ∃ e ∈ n.getD s.toNat [], e.1 = (k : Int) := by
  unfold labsOf labs
  rw [List.mem_flatMap]
  constructor
  · rintro ⟨s, hs, h⟩
    obtain ⟨e, he, rfl⟩ := List.mem_map.1 h
    obtain ⟨he1, he2⟩ := List.mem_filter.1 he
    refine ⟨s, hs, e, he1, ?_⟩
    have hne : ¬ e.1 = -1 := by simpa using he2
    have : -1 ≤ e.1 := by
      rw [List.getD_eq_getElem?_getD] at he1
      cases h2 : n[s.toNat]? with
      | none => rw [h2] at he1; cases he1
      | some es => rw [h2] at he1; exact ((good_edges hg).2.2.2.1 es (List.mem_of_getElem? h2) e he1).1
    omega
  · rintro ⟨s, hs, e, he, h⟩
    exact ⟨s, hs, List.mem_map.2 ⟨e, List.mem_filter.2 ⟨he, by simp; omega⟩, by omega⟩⟩
theorem stepTo_mem {n : Net} {l : List Int} {c t : Int} : t ∈ stepTo n l c ↔ ∃ s ∈ l, ∃ e ∈ n.getD s.toNat [], e.1 = c ∧ e.2 = t := by
  unfold stepTo hits
  rw [List.mem_flatMap]
  constructor
  · rintro ⟨s, hs, h⟩
    obtain ⟨e, he, rfl⟩ := List.mem_map.1 h
    obtain ⟨he1, he2⟩ := List.mem_filter.1 he
    exact ⟨s, hs, e, he1, of_decide_eq_true he2, rfl⟩
  · rintro ⟨s, hs, e, he, h, rfl⟩
    exact ⟨s, hs, List.mem_map.2 ⟨e, List.mem_filter.2 ⟨he, by simp [h]⟩, rfl⟩⟩
theorem label_step {n : Net} {l : List Int} (hg : goodNet n = true) (c : Nat) : (c : Int) ∈ labels n l ↔ stepTo n l c ≠ [] := by
  rw [labels_mem]
  constructor
  · rintro ⟨k, hk, e⟩
    obtain ⟨s, hs, ed, he, h⟩ := (labsOf_mem hg k).1 hk
    intro h0
    have : ed.2 ∈ stepTo n l c := stepTo_mem.2 ⟨s, hs, ed, he, by omega, rfl⟩
    rw [h0] at this; cases this
  · intro h
    obtain ⟨t, ht⟩ := List.exists_mem_of_ne_nil _ h
    obtain ⟨s, hs, e, he, h1, _⟩ := stepTo_mem.1 ht
    exact ⟨c, (labsOf_mem hg c).2 ⟨s, hs, e, he, h1⟩, rfl⟩
theorem labels_union {n : Net} {l : List Int} (hg : goodNet n = true) (x : Int) : x ∈ labels n l ↔ ∃ s ∈ l, x ∈ labels n [s] := by
  rw [labels_mem]
  constructor
  · rintro ⟨k, hk, rfl⟩
    obtain ⟨s, hs, e, he, h⟩ := (labsOf_mem hg k).1 hk
    exact ⟨s, hs, (labels_mem n [s] _).2 ⟨k, (labsOf_mem hg k).2 ⟨s, by simp, e, he, h⟩, rfl⟩⟩
  · rintro ⟨s, hs, hx⟩
    obtain ⟨k, hk, rfl⟩ := (labels_mem n [s] _).1 hx
    obtain ⟨s', hs', e, he, h⟩ := (labsOf_mem hg k).1 hk
    rw [List.mem_singleton] at hs'; subst hs'
    exact ⟨k, (labsOf_mem hg k).2 ⟨s', hs, e, he, h⟩, rfl⟩
/-- The closed states of some, as numbers. -/
def closI (n : Net) (l : List Int) : List Int := (clos n (nats l)).map fun (k : Nat) => (k : Int)
theorem nats_nat (l : List Nat) : nats (l.map fun (k : Nat) => (k : Int)) = l := by
  unfold nats
  rw [List.map_map]
  exact (List.map_congr_left (fun x _ => by simp)).trans (List.map_id _)
theorem may_in {n : Net} {l : List Int} (h : mayB n l = true) : goodNet n = true ∧ inN n (nats l) ∧ ∀ s ∈ l, 0 ≤ s := by
  have h0 := h
  unfold mayB at h
  simp only [Bool.and_eq_true, Bool.not_eq_true', List.any_eq_false] at h
  refine ⟨h.1, (may_nats h0).2, fun s hs => ?_⟩
  have := h.2 s hs
  unfold outOf at this
  simp at this; omega
theorem may_nat {n : Net} {l : List Nat} (hg : goodNet n = true) (h : inN n l) : mayB n (l.map fun (k : Nat) => (k : Int)) = true := by
  unfold mayB
  rw [hg, Bool.true_and, Bool.not_eq_true', List.any_eq_false]
  intro t ht
  obtain ⟨k, hk, rfl⟩ := List.mem_map.1 ht
  have := h k hk
  unfold outOf
  simp; omega
theorem closI_may {n : Net} {l : List Int} (h : mayB n l = true) : mayB n (closI n l) = true := by
  obtain ⟨hg, hl, _⟩ := may_in h
  exact may_nat hg (clos_in hg hl)
theorem closI_closI {n : Net} {l : List Int} (h : mayB n l = true) : closI n (closI n l) = closI n l := by
  obtain ⟨hg, hl, _⟩ := may_in h
  unfold closI
  rw [nats_nat, clos_clos hg hl]
theorem closI_mem {n : Net} {l : List Int} {x : Int} : x ∈ closI n l ↔ 0 ≤ x ∧ x.toNat ∈ clos n (nats l) := by
  unfold closI
  constructor
  · intro h
    obtain ⟨k, hk, rfl⟩ := List.mem_map.1 h
    exact ⟨by omega, by simpa using hk⟩
  · rintro ⟨h1, h2⟩
    exact List.mem_map.2 ⟨_, h2, by omega⟩
theorem nats_mem {l : List Int} {x : Int} (h : x ∈ l) : x.toNat ∈ nats l := List.mem_map.2 ⟨x, h, rfl⟩
theorem closI_has {n : Net} {l : List Int} (h : mayB n l = true) : ∀ x ∈ l, x ∈ closI n l := fun x hx => by
  obtain ⟨hg, hl, h0⟩ := may_in h
  exact closI_mem.2 ⟨h0 x hx, clos_has hg hl _ (nats_mem hx)⟩
theorem closI_mono {n : Net} {l m : List Int} (hl : mayB n l = true) (hm : mayB n m = true) (h : ∀ x ∈ l, x ∈ m) : ∀ x ∈ closI n l, x ∈ closI n m := fun x hx => by
  obtain ⟨hg, h1, _⟩ := may_in hl
  obtain ⟨_, h2, _⟩ := may_in hm
  obtain ⟨h3, h4⟩ := closI_mem.1 hx
  refine closI_mem.2 ⟨h3, clos_mono hg h1 h2 (fun y hy => ?_) _ h4⟩
  obtain ⟨z, hz, rfl⟩ := List.mem_map.1 hy
  exact nats_mem (h z hz)
theorem closI_union {n : Net} {l : List Int} (hl : mayB n l = true) (x : Int) : x ∈ closI n l ↔ ∃ s ∈ l, x ∈ closI n [s] := by
  obtain ⟨hg, h1, _⟩ := may_in hl
  rw [closI_mem, clos_union hg h1]
  constructor
  · rintro ⟨h0, s, hs, h⟩
    obtain ⟨z, hz, rfl⟩ := List.mem_map.1 hs
    exact ⟨z, hz, closI_mem.2 ⟨h0, h⟩⟩
  · rintro ⟨s, hs, h⟩
    obtain ⟨h0, h⟩ := closI_mem.1 h
    exact ⟨h0, _, nats_mem hs, h⟩
theorem closI_up {n : Net} {l : List Int} (hl : mayB n l = true) : (closI n l).Pairwise (· < ·) := by
  obtain ⟨hg, h1, _⟩ := may_in hl
  unfold closI
  rw [List.pairwise_map]
  exact (clos_mem hg h1).1.imp (fun h => by omega)
theorem closI_len (n : Net) (l : List Int) : (closI n l).length ≤ n.length + 1 := by
  unfold closI; rw [List.length_map]; exact clos_len n _
theorem closI_nil {n : Net} {l : List Int} (hl : mayB n l = true) : closI n l = [] ↔ l = [] := by
  obtain ⟨hg, h1, _⟩ := may_in hl
  unfold closI
  rw [List.map_eq_nil_iff, clos_nil hg h1]
  exact List.map_eq_nil_iff
theorem may_one {n : Net} {l : List Int} (hl : mayB n l = true) {s : Int} (hs : s ∈ l) : mayB n [s] = true := by
  unfold mayB at hl ⊢
  simp only [Bool.and_eq_true, Bool.not_eq_true', List.any_eq_false] at hl ⊢
  exact ⟨hl.1, fun t ht => by rw [List.mem_singleton] at ht; subst ht; exact hl.2 t hs⟩
theorem stepI_union {n : Net} {l : List Int} (hg : goodNet n = true) (c x : Int) : x ∈ closI n (stepTo n l c) ↔ ∃ s ∈ l, x ∈ closI n (stepTo n [s] c) := by
  rw [closI_union (stepTo_may hg)]
  constructor
  · rintro ⟨t, ht, hx⟩
    obtain ⟨s, hs, e, he, h1, h2⟩ := stepTo_mem.1 ht
    exact ⟨s, hs, (closI_union (stepTo_may hg) x).2 ⟨t, stepTo_mem.2 ⟨s, by simp, e, he, h1, h2⟩, hx⟩⟩
  · rintro ⟨s, hs, hx⟩
    obtain ⟨t, ht, hxt⟩ := (closI_union (stepTo_may hg) x).1 hx
    obtain ⟨s', hs', e, he, h1, h2⟩ := stepTo_mem.1 ht
    rw [List.mem_singleton] at hs'; subst hs'
    exact ⟨t, stepTo_mem.2 ⟨s', hs, e, he, h1, h2⟩, hxt⟩
theorem of_is {n : Net} {l : List Int} (h : mayB n l = true) : ofR n l = .tup [.sl 1 ((closI n l).map encZ), .val (.int .i64 0)] := by
  unfold ofR closI
  rw [h, ← encN_Z]; rfl
theorem step_is {n : Net} {l : List Int} {c : Int} (hc : 0 ≤ c) (h : mayB n l = true) : stepR n l c = .tup [.sl 1 ((closI n (stepTo n l c)).map encZ), .val (.int .i64 0)] := by
  unfold stepR closI stepOk
  rw [h, ← encN_Z, decide_eq_false (by omega : ¬ c < 0)]; rfl
theorem labels_is {n : Net} {l : List Int} (h : mayB n l = true) : labelsR n l = .tup [.sl 1 ((labels n l).map encZ), .val (.int .i64 0)] := by
  unfold labelsR
  rw [h]; rfl
theorem comp_len (zs : List Int) : (Lib.compact zs).length ≤ zs.length := by
  unfold Lib.compact Lib.compactUpTo
  rw [List.length_map]
  exact Nat.le_trans (List.length_filter_le _ _) (by simp)
theorem labels_len {n : Net} (hg : goodNet n = true) (l : List Int) : (labels n l).length ≤ 8000 * l.length := by
  unfold labels
  have := comp_len (((labsOf n l).mergeSort fun x y => decide (x ≤ y)).map fun (k : Nat) => (k : Int))
  rw [List.length_map, List.length_mergeSort] at this
  have := labsOf_len hg l
  omega
def encU (k : Int) : List D := [.val (.int .u16 k)]
def pOf (n : Net) (l : List Int) : List Int := l.map fun k => k % (n.length : Int)
theorem pOf_succ {n : Net} {l : List Int} {i : Nat} {k : Int} (h : l[i]? = some k) : pOf n (l.take (i + 1)) = pOf n (l.take i) ++ [k % (n.length : Int)] := by
  unfold pOf
  rw [List.take_add_one, h]; simp
theorem pOf_may {n : Net} {l : List Int} (hg : goodNet n = true) : mayB n (pOf n l) = true := by
  obtain ⟨g1, g2, _⟩ := good_edges hg
  unfold mayB
  rw [hg, Bool.true_and, Bool.not_eq_true', List.any_eq_false]
  intro t ht
  unfold pOf at ht
  obtain ⟨k, _, rfl⟩ := List.mem_map.1 ht
  have h1 := Int.emod_nonneg k (show (n.length : Int) ≠ 0 by omega)
  have h2 := Int.emod_lt_of_pos k (show (0 : Int) < (n.length : Int) by omega)
  unfold outOf
  simp; omega
def inB (l : List Int) (x : Int) : Bool := l.any fun y => decide (x = y)
def allB (a b : List Int) : Bool := a.all (inB b)
theorem inB_iff {l : List Int} {x : Int} : inB l x = true ↔ x ∈ l := by
  unfold inB
  rw [List.any_eq_true]
  exact ⟨fun ⟨y, hy, h⟩ => by rw [of_decide_eq_true h]; exact hy, fun h => ⟨x, h, by simp⟩⟩
theorem allB_true {a b : List Int} (h : ∀ x ∈ a, x ∈ b) : allB a b = true := by
  unfold allB
  rw [List.all_eq_true]
  exact fun x hx => inB_iff.2 (h x hx)
theorem inB_succ {l : List Int} {j : Nat} {x y : Int} (h : l[j]? = some y) : inB (l.take (j + 1)) x = (inB (l.take j) x || decide (x = y)) := by
  unfold inB
  rw [List.take_add_one, h]; simp
end Go.Proofs.Ytbpjlpokmnmmmaa.V
