import Derived.Test.YtdkgbkmaeeicoaaVB
set_option linter.unusedVariables false
set_option linter.unusedSimpArgs false
/- The value layer, 31: arrays of arrays of one's own. -/
namespace Go.Proofs.Ytdkgbkmaeeicoaa.V
open Go Go.RowKit Go.Proofs.YtdkgbkmaeeicoaaW.PrintWords
/-- The same handle, or another one that tells the same slice. -/
def Like (u v : Value) : Prop := u = v ∨ (hdV u = hdV v ∧ ∃ A n c, hdV v = .slice A n c)
theorem Like.hd {u v : Value} (h : Like u v) : hdV u = hdV v := by
  rcases h with rfl | h
  · rfl
  · exact h.1
theorem VRep.swap {R R' : Addr → Value → Prop} {gv gv' : Nat → Option Value} {x x' : Nat} {ρ : Nat → Nat} (hR : ∀ a v, R a v → R' a v) (hg : ∀ id v, id < x → gv' (ρ id) = some v → ∃ u, gv id = some u ∧ Like u v) (hx : ∀ id, id < x → ρ id < x') {v : V} {m : Value} (h : VRep R gv x v m) : VRep R' gv' x' (v.ren ρ) m := by
  induction h with
  | val v h => exact .val v h
  | sl sz xs m h => exact .sl sz xs m (h.mono hR)
  | agg cs ms h1 h2 ih =>
    refine .agg _ ms (by rw [renL_length]; exact h1) (fun i c m hc hm => ?_)
    rw [renL_get] at hc
    obtain ⟨c', h3, rfl⟩ := Option.map_eq_some_iff.1 hc
    exact ih i c' m h3 hm
  | tup cs ms h1 h2 ih =>
    refine .tup _ ms (by rw [renL_length]; exact h1) (fun i c m hc hm => ?_)
    rw [renL_get] at hc
    obtain ⟨c', h3, rfl⟩ := Option.map_eq_some_iff.1 hc
    exact ih i c' m h3 hm
  | fn f cs ms h1 h2 ih =>
    refine .fn _ _ ms (by rw [renL_length]; exact h1) (fun i c m hc hm => ?_)
    rw [renL_get] at hc
    obtain ⟨c', h3, rfl⟩ := Option.map_eq_some_iff.1 hc
    exact ih i c' m h3 hm
  | ptr id off m h1 h0 h2 =>
    refine .ptr _ _ _ (hx _ h1) h0 (fun b hb => ?_)
    obtain ⟨u, hu, hl⟩ := hg _ _ h1 hb
    rcases hl with rfl | ⟨_, A, n, c, h⟩
    · exact h2 b hu
    · cases h
  | ael id pos m h1 h0 h2 =>
    refine .ael _ _ _ (hx _ h1) h0 (fun v ad n c hv hd => ?_)
    obtain ⟨u, hu, hl⟩ := hg _ _ h1 hv
    exact h2 u ad n c hu (hl.hd.trans hd)
  | el cs ad h => exact .el cs ad (fun j d hj => let ⟨m, hm, hd⟩ := h j d hj; ⟨m, hR _ _ hm, hd.mono hR⟩)
  | ref id m h1 h0 h2 =>
    refine .ref _ _ (hx _ h1) h0 (fun v hv => ?_)
    obtain ⟨u, hu, hl⟩ := hg _ _ h1 hv
    exact (h2 u hu).trans hl.hd
  | junk m => exact .junk m
theorem ORep.swap {R R' : Addr → Value → Prop} {gv gv' : Nat → Option Value} {x x' : Nat} {ρ : Nat → Nat} (hR : ∀ a v, R a v → R' a v) (hg : ∀ id v, id < x → gv' (ρ id) = some v → ∃ u, gv id = some u ∧ Like u v) (hx : ∀ id, id < x → ρ id < x') {w : World} {o : O} {v : Value} (h : ORep R gv x w o v) : ORep R' gv' x' w (o.ren ρ) v := by
  cases h with
  | cells t cs b ms e1 e2 e3 e4 =>
    refine .cells t _ b ms e1 (by rw [renL_length]; exact e2) e3 (fun i c m hc hm => ?_)
    rw [renL_get] at hc
    obtain ⟨c', h3, rfl⟩ := Option.map_eq_some_iff.1 hc
    exact (e4 i c' m h3 hm).swap hR hg hx
  | arr t sz xs v ms e1 e2 e3 e4 e5 => exact .arr t sz xs v ms e1 e2 e3 e4 (fun i j d h => let ⟨m, hm, hd⟩ := e5 i j d h; ⟨m, hm, hd.mono hR⟩)
  | nest t sz rows hole v ms us e1 e2 e3 e4 e5 e6 e7 => exact ORep.nest_map ρ (.nest t sz rows hole v ms us e1 e2 e3 e4 e5 e6 e7) hR (fun _ _ h => h.swap hR hg hx) (fun _ _ => rfl)
  | map es r ms cl e1 e2 e3 => exact .map es r ms cl e1 e2 (fun i e m h1 h2 => ⟨(e3 i e m h1 h2).1.mono hR, (e3 i e m h1 h2).2.mono hR⟩)
  | chan cap buf cl r ms s q e1 e2 e3 => exact .chan cap buf cl r ms s q e1 e2 (fun i e m h1 h2 => (e3 i e m h1 h2).mono hR)
/-- One name for another. -/
def ρt (id y i : Nat) : Nat := match Nat.beq i id with
  | true => y
  | false => i
theorem ρt_eq (id y : Nat) : ρt id y id = y := by unfold ρt; rw [Nat.beq_refl]
theorem ρt_ne {id y i : Nat} (h : i ≠ id) : ρt id y i = i := by
  unfold ρt
  cases hb : Nat.beq i id with
  | true => exact absurd (Nat.eq_of_beq_eq_true hb) h
  | false => rfl
def renS (ρ : Nat → Nat) : List (Nat × V) → List (Nat × V)
  | [] => []
  | (d, v) :: s => (d, v.ren ρ) :: renS ρ s
def renO (ρ : Nat → Nat) : Heap → Heap
  | [] => []
  | (d, o) :: h => (d, o.ren ρ) :: renO ρ h
theorem lk_renS (ρ : Nat → Nat) (s : List (Nat × V)) (d : Nat) : lk (renS ρ s) d = (lk s d).map (V.ren ρ) := by
  induction s with
  | nil => rfl
  | cons p s ih =>
    obtain ⟨e, v⟩ := p
    simp only [renS, lk_cons]
    split
    · rfl
    · exact ih
theorem lk_renO (ρ : Nat → Nat) (h : Heap) (d : Nat) : lk (renO ρ h) d = (lk h d).map (O.ren ρ) := by
  induction h with
  | nil => rfl
  | cons p h ih =>
    obtain ⟨e, o⟩ := p
    simp only [renO, lk_cons]
    split
    · rfl
    · exact ih
/-- The heap in which some objects have been traded for others. -/
def tradeH (N : Heap) (L : List Nat) (ρ : Nat → Nat) (h : Heap) : Heap := N ++ (deadH L ++ renO ρ h)
section
variable {n : Nat} {cx : Cx} {s : List (Nat × V)} {h : Heap} {x : Nat} {g g' : Nat → Value} {a : Act} {w : World} {N : Heap} {L : List Nat} {ρ : Nat → Nat} {x' : Nat}
theorem trade_gv (hh : HRep cx g h x w) (hN : ∀ i o, lk N i = some o → x ≤ i) (hg : ∀ i, i < x → g' i = g i) {i : Nat} {v : Value} (hv : gvOf (tradeH N L ρ h) g' i = some v) :
    (gvOf N g' i = some v ∧ x ≤ i ∧ lk (tradeH N L ρ h) i = lk N i) ∨ (i ∉ L ∧ i < x ∧ gvOf h g i = some v ∧ lk (tradeH N L ρ h) i = (lk h i).map (O.ren ρ)) := by
  unfold tradeH at hv ⊢
  cases hn : lk N i with
  | some o =>
    refine .inl ⟨?_, hN i o hn, by rw [lk_append, hn]⟩
    unfold gvOf at hv ⊢
    rw [lk_append, hn] at hv
    rw [hn]; exact hv
  | none =>
    by_cases hL : i ∈ L
    · exfalso
      unfold gvOf at hv
      rw [lk_append, hn] at hv
      simp only [lk_append, lk_dead_mem hL, O.live] at hv
      cases hv
    · have e : lk (N ++ (deadH L ++ renO ρ h)) i = (lk h i).map (O.ren ρ) := by rw [lk_append, hn]; simp only [lk_append, lk_dead_not hL, lk_renO]
      unfold gvOf at hv
      rw [e] at hv
      cases ho : lk h i with
      | none => rw [ho] at hv; cases hv
      | some o =>
        rw [ho] at hv
        simp only [Option.map_some, O.ren_live] at hv
        have hi : i < x := by
          cases hl : o.live with
          | false => rw [hl] at hv; cases hv
          | true => exact (hh.obj i (g i) (by unfold gvOf; rw [ho]; simp [hl])).1
        refine .inr ⟨hL, hi, ?_, by rw [e, ho]⟩
        unfold gvOf
        rw [ho, ← hg i hi]; exact hv
/-- Some objects are traded for others that have no block besides. -/
theorem Rep.trade (r : Rep n cx g ⟨s, h, x⟩ a w) (hN : ∀ i o, lk N i = some o → x ≤ i) (hg : ∀ i, i < x → g' i = g i) (hx : x ≤ x')
    (hb : ∀ i v, gvOf N g' i = some v → i < x' ∧ ∀ b, Blk v b → ∃ j ∈ L, ∃ u, gvOf h g j = some u ∧ Blk u b)
    (hap : ∀ i i' v v' b, gvOf N g' i = some v → gvOf N g' i' = some v' → Blk v b → Blk v' b → i = i')
    (hρ : ∀ i, i < x → ρ i < x') (hlk : ∀ i v, i < x → gvOf (tradeH N L ρ h) g' (ρ i) = some v → ∃ u, gvOf h g i = some u ∧ Like u v)
    (hO : ∀ (R' : Addr → Value → Prop), R' = Rd cx.z (tradeH N L ρ h) g' w → (∀ ad v, Rd cx.z h g w ad v → R' ad v) →
      (∀ {v : V} {m : Value}, VRep (Rd cx.z h g w) (gvOf h g) x v m → VRep R' (gvOf (tradeH N L ρ h) g') x' (v.ren ρ) m) → ∀ i v, gvOf N g' i = some v → ∃ o, lk N i = some o ∧ ORep R' (gvOf (tradeH N L ρ h) g') x' w o v) :
    Rep n cx g' ⟨renS ρ s, tradeH N L ρ h, x'⟩ a w := by
  have hh := r.h
  have key := fun {i : Nat} {v : Value} (hv : gvOf (tradeH N L ρ h) g' i = some v) => trade_gv (L := L) (ρ := ρ) hh hN hg hv
  have hown : ∀ k, Own (tradeH N L ρ h) g' k → Own h g k := by
    rintro k ⟨i, v, h1, h2⟩
    rcases key h1 with ⟨h3, _⟩ | ⟨_, _, h3, _⟩
    · obtain ⟨j, _, u, h4, h5⟩ := (hb i v h3).2 k h2
      exact ⟨j, u, h4, h5⟩
    · exact ⟨i, v, h3, h2⟩
  have hrd : ∀ ad v, Rd cx.z h g w ad v → Rd cx.z (tradeH N L ρ h) g' w ad v := fun ad v q => ⟨q.z, fun ho => q.own (hown _ ho), q.cell⟩
  have hv : ∀ {v : V} {m : Value}, VRep (Rd cx.z h g w) (gvOf h g) x v m → VRep (Rd cx.z (tradeH N L ρ h) g' w) (gvOf (tradeH N L ρ h) g') x' (v.ren ρ) m := fun q => q.swap hrd hlk hρ
  have hO' := hO _ rfl hrd hv
  refine ⟨⟨hh.os, hh.tape, hh.output, hh.size, hh.old, ?_, ?_, ?_, ?_, Nat.le_trans hh.low hx, hh.apz⟩, r.size, r.defers, ?_⟩
  · intro i v h1
    rcases key h1 with ⟨h3, h4, h5⟩ | ⟨h3, h4, h5, h6⟩
    · obtain ⟨o, h6, h7⟩ := hO' i v h3
      exact ⟨(hb i v h3).1, o, h5.trans h6, h7⟩
    · obtain ⟨_, o, h7, h8⟩ := hh.obj i v h5
      exact ⟨Nat.lt_of_lt_of_le h4 hx, o.ren ρ, by rw [h6, h7]; rfl, h8.swap hrd hlk hρ⟩
  · intro i i' v v' k h1 h2 h3 h4
    rcases key h1 with ⟨e1, _⟩ | ⟨e1, _, e2, _⟩ <;> rcases key h2 with ⟨f1, _⟩ | ⟨f1, _, f2, _⟩
    · exact hap _ _ _ _ _ e1 f1 h3 h4
    · obtain ⟨j, hj, u, q1, q2⟩ := (hb _ _ e1).2 k h3
      have := hh.apart _ _ _ _ _ f2 q1 h4 q2
      subst this; exact absurd hj f1
    · obtain ⟨j, hj, u, q1, q2⟩ := (hb _ _ f1).2 k h4
      have := hh.apart _ _ _ _ _ e2 q1 h3 q2
      subst this; exact absurd hj e1
    · exact hh.apart _ _ _ _ _ e2 f2 h3 h4
  · intro i v k h1 h2
    rcases key h1 with ⟨e1, _⟩ | ⟨_, _, e2, _⟩
    · obtain ⟨j, _, u, q1, q2⟩ := (hb _ _ e1).2 k h2
      exact hh.mine _ _ _ q1 q2
    · exact hh.mine _ _ _ e2 h2
  · intro i v hi h1
    rcases key h1 with ⟨_, e2, _⟩ | ⟨_, _, e2, _⟩
    · have := hh.low
      exact absurd (Nat.lt_of_lt_of_le hi this) (by simp only; omega)
    · exact hh.first _ _ hi e2
  · intro d v h1
    have h1 : lk (renS ρ s) d = some v := h1
    rw [lk_renS] at h1
    obtain ⟨v', h2, rfl⟩ := Option.map_eq_some_iff.1 h1
    exact hv (r.s d v' h2)
end
end Go.Proofs.Ytdkgbkmaeeicoaa.V
/- The value layer, 32: an inner array is taken out of a nest, and put back; an array becomes a nest, and a nest data. -/
namespace Go.Proofs.Ytdkgbkmaeeicoaa.V
open Go Go.RowKit Go.Proofs.YtdkgbkmaeeicoaaW.PrintWords
section
variable {P : Program} {n : Nat} {cx : Cx} {Q : VExit → St → Prop} {s : List (Nat × V)} {h : Heap} {x : Nat} {g : Nat → Value} {a : Act} {w : World}
/-- A cell of the rows, put. -/
def putN (rows : List (List N)) (i j : Nat) (c : N) : List (List N) := rows.modify i (·.set j c)
theorem putN_length (rows : List (List N)) (i j : Nat) (c : N) : (putN rows i j c).length = rows.length := by simp [putN]
theorem putN_row {rows : List (List N)} {i j : Nat} {c : N} {sz : Nat} (hr : ∀ row ∈ rows, row.length = sz) : ∀ row ∈ putN rows i j c, row.length = sz := by
  intro row hrow
  obtain ⟨k, hk⟩ := List.getElem?_of_mem hrow
  unfold putN at hk
  rw [List.getElem?_modify] at hk
  cases hq : rows[k]? with
  | none => rw [hq] at hk; cases hk
  | some q =>
    rw [hq] at hk
    simp only [Option.map_eq_map, Option.map_some, Option.some.injEq] at hk
    have hl := hr q (List.mem_of_getElem? hq)
    subst hk
    split
    · rw [List.length_set]; exact hl
    · exact hl
theorem putN_get {rows : List (List N)} {i j i' j' : Nat} {c d : N} (h : ((putN rows i j c)[i']?).bind (·[j']?) = some d) : (i' = i ∧ j' = j ∧ d = c ∧ ∃ c', (rows[i]?).bind (·[j]?) = some c') ∨ (¬ (i = i' ∧ j = j') ∧ (rows[i']?).bind (·[j']?) = some d) := by
  unfold putN at h
  rw [List.getElem?_modify] at h
  cases hq : rows[i']? with
  | none => rw [hq] at h; cases h
  | some q =>
    rw [hq] at h
    simp only [Option.map_eq_map, Option.map_some, Option.bind_some] at h
    by_cases hi : i = i'
    · subst hi
      rw [if_pos rfl, List.getElem?_set] at h
      by_cases hj : j = j'
      · subst hj
        rw [if_pos rfl] at h
        split at h
        · rename_i hlt
          exact .inl ⟨rfl, rfl, (Option.some.inj h).symm, q[j], by rw [hq]; exact List.getElem?_eq_getElem hlt⟩
        · cases h
      · rw [if_neg hj] at h
        exact .inr ⟨fun e => hj e.2, by exact h⟩
    · rw [if_neg hi] at h
      exact .inr ⟨fun e => hi e.1, by exact h⟩
theorem pos_inj {sz i j i' j' : Nat} (hj : j < sz) (hj' : j' < sz) (h : i * sz + j = i' * sz + j') : i = i' ∧ j = j' := by
  have hz : 0 < sz := by omega
  have e1 : (i * sz + j) / sz = i := by rw [Nat.mul_comm, Nat.mul_add_div hz, Nat.div_eq_of_lt hj]; omega
  have e2 : (i' * sz + j') / sz = i' := by rw [Nat.mul_comm, Nat.mul_add_div hz, Nat.div_eq_of_lt hj']; omega
  have hi : i = i' := by rw [← e1, ← e2, h]
  subst hi
  exact ⟨rfl, by omega⟩
theorem cell_lt {rows : List (List N)} {sz i j : Nat} {c : N} (hr : ∀ row ∈ rows, row.length = sz) (h : (rows[i]?).bind (·[j]?) = some c) : i < rows.length ∧ j < sz := by
  obtain ⟨q, hq, hj⟩ := Option.bind_eq_some_iff.1 h
  exact ⟨(List.getElem?_eq_some_iff.1 hq).1, by rw [← hr q (List.mem_of_getElem? hq)]; exact (List.getElem?_eq_some_iff.1 hj).1⟩
theorem NRep.free {R : Addr → Value → Prop} {w : World} {c : N} {m u : Value} (h : NRep R w c m u) {R' : Addr → Value → Prop} (hR : ∀ a v, R a v → R' a v) : NRep R' w c m u := h.move hR (fun _ _ => rfl)
/-- An inner array is taken out. -/
theorem Rep.focus (r : Rep n cx g ⟨s, h, x⟩ a w) {id i j sz s' : Nat} {t e : TypeId} {rows : List (List N)} {ys : List (List D)} (hl : lk h id = some (.nest t sz rows none)) (hc : (rows[i]?).bind (·[j]?) = some (.own e s' ys)) :
    ∃ g', Rep n cx g' ⟨renS (ρt id (x + 1)) s, tradeH [(x + 1, .nest t sz rows (some (i, j, x))), (x, .arr e s' ys)] [id] (ρt id (x + 1)) h, x + 2⟩ a w := by
  obtain ⟨v, ms, us, hgv, e1, e2, e3, e4, e5, e6, e7⟩ := r.nest hl
  obtain ⟨m, u, hm, hu, hin, hbu⟩ := e6 i j _ hc
  obtain ⟨hilt, hjlt⟩ := cell_lt e2 hc
  have hlt : id < x := (r.h.obj _ _ hgv).1
  have hv1 : hdV v = v := ownsRow_hd e1
  obtain ⟨⟨ks, k1, k2, k3⟩, k4, k5⟩ := hin
  have hm1 : hdV m = m := ownsRow_hd k1
  have hmo : m.oneCell' = true := e4 m (List.mem_of_getElem? hm)
  have hplt : i * sz + j < us.length := (List.getElem?_eq_some_iff.1 hu).1
  let us' := us.set (i * sz + j) undef
  let g' : Nat → Value := setG (setG g x m) (x + 1) (.agg (v :: us').toArray)
  have gx : g' x = m := by simp [g', setG]
  have gx1 : g' (x + 1) = .agg (v :: us').toArray := by simp [g', setG]
  have hus' : ∀ (p : Nat) (q : Value) (k : Nat), (v :: us')[p]? = some q → blk q = some k → p ≠ i * sz + j + 1 ∧ (v :: us)[p]? = some q := by
    intro p q k hq hk
    cases p with
    | zero => exact ⟨by omega, hq⟩
    | succ p =>
      rw [List.getElem?_cons_succ] at hq ⊢
      rw [List.getElem?_set] at hq
      by_cases hp : i * sz + j = p
      · rw [if_pos hp, if_pos hplt] at hq
        obtain rfl := Option.some.inj hq
        cases hk
      · rw [if_neg hp] at hq
        exact ⟨by omega, hq⟩
  have blkA : ∀ k, Blk (.agg (v :: us').toArray) k → ∃ (p : Nat) (q : Value), (v :: us)[p]? = some q ∧ blk q = some k ∧ p ≠ i * sz + j + 1 := by
    rintro k (hk | ⟨qs, hqs, q, hq, hk⟩)
    · cases hk
    · obtain rfl := Value.agg.inj hqs
      obtain ⟨p, hp⟩ := List.getElem?_of_mem (List.mem_toArray.1 hq)
      exact ⟨p, q, (hus' p q k hp hk).2, hk, (hus' p q k hp hk).1⟩
  have blkO : ∀ (p : Nat) (q : Value) (k : Nat), (v :: us)[p]? = some q → blk q = some k → Blk (.agg (v :: us).toArray) k := fun p q k hp hk => .inr ⟨_, rfl, q, List.mem_toArray.2 (List.mem_of_getElem? hp), hk⟩
  have hN : ∀ k q, gvOf [(x + 1, O.nest t sz rows (some (i, j, x))), (x, .arr e s' ys)] g' k = some q → (k = x + 1 ∧ q = .agg (v :: us').toArray) ∨ (k = x ∧ q = m) := by
    intro k q hq
    unfold gvOf at hq
    by_cases h1 : k = x + 1
    · subst h1
      rw [lk_same] at hq
      simp only [O.live, if_true, gx1] at hq
      exact .inl ⟨rfl, (Option.some.inj hq).symm⟩
    · rw [lk_other _ _ (Ne.symm h1)] at hq
      by_cases h2 : k = x
      · subst h2
        rw [lk_same] at hq
        simp only [O.live, if_true, gx] at hq
        exact .inr ⟨rfl, (Option.some.inj hq).symm⟩
      · rw [lk_other _ _ (Ne.symm h2)] at hq
        cases hq
  refine ⟨g', r.trade ?_ ?_ (by omega) ?_ ?_ ?_ ?_ ?_⟩
  · intro k o hk
    simp only [lk_cons] at hk
    split at hk
    · omega
    · split at hk
      · omega
      · cases hk
  · intro k hk
    simp only [g', setG]
    rw [if_neg (by omega), if_neg (by omega)]
  · intro k q hq
    rcases hN k q hq with ⟨rfl, rfl⟩ | ⟨rfl, rfl⟩
    · refine ⟨by omega, fun b hb => ⟨id, by simp, _, hgv, ?_⟩⟩
      obtain ⟨p, q, h1, h2, _⟩ := blkA b hb
      exact blkO p q b h1 h2
    · refine ⟨by omega, fun b hb => ⟨id, by simp, _, hgv, ?_⟩⟩
      exact blkO (i * sz + j + 1) u b (by rw [List.getElem?_cons_succ]; exact hu) (by rw [hbu]; exact hb.inv hmo)
  · intro k k' q q' b h1 h2 h3 h4
    have mix : Blk (.agg (v :: us').toArray) b → Blk m b → False := fun hA hB => by
      obtain ⟨p, q, h1, h2, h3⟩ := blkA b hA
      exact h3 (e7 p (i * sz + j + 1) q u b h1 (by rw [List.getElem?_cons_succ]; exact hu) h2 (by rw [hbu]; exact hB.inv hmo))
    rcases hN k q h1 with ⟨rfl, rfl⟩ | ⟨rfl, rfl⟩ <;> rcases hN k' q' h2 with ⟨rfl, rfl⟩ | ⟨rfl, rfl⟩
    · rfl
    · exact (mix h3 h4).elim
    · exact (mix h4 h3).elim
    · rfl
  · intro k hk
    unfold ρt
    split <;> omega
  · intro k q hk hq
    by_cases hki : k = id
    · subst hki
      rw [ρt_eq] at hq
      refine ⟨_, hgv, .inr ?_⟩
      have : q = .agg (v :: us').toArray := by
        unfold gvOf tradeH at hq
        rw [List.cons_append, lk_same] at hq
        simp only [O.live, if_true, gx1] at hq
        exact (Option.some.inj hq).symm
      subst this
      refine ⟨rfl, ?_⟩
      rcases e1.2 with ⟨rfl, _⟩ | ⟨_, _, _, rfl, _⟩
      · exact ⟨none, 0, 0, rfl⟩
      · exact ⟨_, _, _, rfl⟩
    · rw [ρt_ne hki] at hq
      rcases trade_gv (L := [id]) (ρ := ρt id (x + 1)) (show HRep cx g h x w from r.h) (fun k o hk => by
        simp only [lk_cons] at hk
        split at hk
        · omega
        · split at hk
          · omega
          · cases hk) (fun k hk => by simp only [g', setG]; rw [if_neg (by omega), if_neg (by omega)]) hq with ⟨_, h2, _⟩ | ⟨_, _, h2, _⟩
      · omega
      · exact ⟨q, h2, .inl rfl⟩
  · intro R' _ hrd hv k q hq
    have gvx : gvOf (tradeH [(x + 1, .nest t sz rows (some (i, j, x))), (x, .arr e s' ys)] [id] (ρt id (x + 1)) h) g' x = some m := by
      unfold gvOf tradeH
      rw [List.cons_append, lk_other _ _ (by omega), List.cons_append, lk_same]
      simp [O.live, gx]
    rcases hN k q hq with ⟨rfl, rfl⟩ | ⟨rfl, rfl⟩
    · refine ⟨_, lk_same _ _ _, .nest t sz rows _ v ms us' e1 e2 e3 e4 (by simp [us', e5]) (fun i' j' c hc' => ?_) ?_⟩
      · obtain ⟨m', u', h1, h2, h3⟩ := e6 i' j' c hc'
        obtain ⟨_, hj'⟩ := cell_lt e2 hc'
        by_cases hij : i = i' ∧ j = j'
        · obtain ⟨rfl, rfl⟩ := hij
          rw [hm] at h1
          obtain rfl := Option.some.inj h1
          refine ⟨m, undef, hm, by simp [us', List.getElem?_set, hplt], ?_⟩
          simp only [HoleRep, and_self, if_true]
          refine ⟨.ref x m (by omega) hmo (fun v' hv' => ?_), rfl⟩
          rw [gvx] at hv'
          obtain rfl := Option.some.inj hv'
          exact hm1.symm
        · refine ⟨m', u', h1, ?_, ?_⟩
          · have hne : i * sz + j ≠ i' * sz + j' := fun e => hij (pos_inj hjlt hj' e)
            simp only [us', List.getElem?_set, if_neg hne]
            exact h2
          · simp only [HoleRep, if_neg hij]
            exact NRep.free h3 hrd
      · intro p q u1 u2 k h1 h2 h3 h4
        exact e7 p q u1 u2 k (hus' p u1 k h1 h3).2 (hus' q u2 k h2 h4).2 h3 h4
    · refine ⟨_, by rw [lk_other _ _ (by omega), lk_same], .arr e s' ys q ks k1 k4 k5 k2 (fun i j d hd => let ⟨k, hk, hd⟩ := k3 i j d hd; ⟨k, hk, hd.mono hrd⟩)⟩
theorem agg_blk {v : Value} {us : List Value} {k : Nat} (h : Blk (.agg (v :: us).toArray) k) : ∃ (p : Nat) (q : Value), (v :: us)[p]? = some q ∧ blk q = some k := by
  rcases h with hk | ⟨qs, hqs, q, hq, hk⟩
  · cases hk
  · obtain rfl := Value.agg.inj hqs
    obtain ⟨p, hp⟩ := List.getElem?_of_mem (List.mem_toArray.1 hq)
    exact ⟨p, q, hp, hk⟩
theorem blk_agg {v : Value} {us : List Value} {k p : Nat} {q : Value} (hp : (v :: us)[p]? = some q) (hk : blk q = some k) : Blk (.agg (v :: us).toArray) k := .inr ⟨_, rfl, q, List.mem_toArray.2 (List.mem_of_getElem? hp), hk⟩
theorem row_is {w : World} {t : TypeId} {sz n : Nat} {v : Value} {ms : List Value} (h : w.ownsRow 0 t sz v n ms) : ∃ A n c, v = .slice A n c := by
  rcases h.2 with ⟨rfl, _⟩ | ⟨_, _, _, rfl, _⟩
  · exact ⟨none, 0, 0, rfl⟩
  · exact ⟨_, _, _, rfl⟩
theorem row_like {w : World} {t : TypeId} {sz n : Nat} {v : Value} {ms : List Value} (h : w.ownsRow 0 t sz v n ms) : ∃ A n c, hdV v = .slice A n c := by
  rcases h.2 with ⟨rfl, _⟩ | ⟨_, _, _, rfl, _⟩
  · exact ⟨none, 0, 0, rfl⟩
  · exact ⟨_, _, _, rfl⟩
/-- One object for one or two. -/
theorem Rep.trade1 (r : Rep n cx g ⟨s, h, x⟩ a w) {id : Nat} {L : List Nat} {o : O} {v v' : Value} (hid : id ∈ L) (hgv : gvOf h g id = some v) (hl : o.live = true) (hlike : Like v v')
    (hb : ∀ b, Blk v' b → ∃ j ∈ L, ∃ u, gvOf h g j = some u ∧ Blk u b)
    (hO : ∀ (R' : Addr → Value → Prop), R' = Rd cx.z (tradeH [(x, o)] L (ρt id x) h) (setG g x v') w → (∀ ad v, Rd cx.z h g w ad v → R' ad v) → ORep R' (gvOf (tradeH [(x, o)] L (ρt id x) h) (setG g x v')) (x + 1) w o v') :
    Rep n cx (setG g x v') ⟨renS (ρt id x) s, tradeH [(x, o)] L (ρt id x) h, x + 1⟩ a w := by
  have hh : HRep cx g h x w := r.h
  have hlt : id < x := (hh.obj _ _ hgv).1
  have gx : setG g x v' x = v' := by simp [setG]
  have hN0 : ∀ i p, lk [(x, o)] i = some p → x ≤ i := fun k p hk => by
    simp only [lk_cons] at hk
    split at hk
    · omega
    · cases hk
  have hg0 : ∀ i, i < x → setG g x v' i = g i := fun k hk => by
    simp only [setG]; rw [if_neg (by omega)]
  have hN : ∀ k q, gvOf [(x, o)] (setG g x v') k = some q → k = x ∧ q = v' := by
    intro k q hq
    unfold gvOf at hq
    by_cases h1 : x = k
    · subst h1
      rw [lk_same] at hq
      simp only [hl, if_true, gx] at hq
      exact ⟨rfl, (Option.some.inj hq).symm⟩
    · rw [lk_other _ _ h1] at hq
      cases hq
  refine r.trade hN0 hg0 (by omega) ?_ ?_ ?_ ?_ ?_
  · intro k q hq
    obtain ⟨rfl, rfl⟩ := hN k q hq
    exact ⟨by omega, hb⟩
  · intro k k' q q' b h1 h2 _ _
    rw [(hN k q h1).1, (hN k' q' h2).1]
  · intro k hk
    unfold ρt
    split <;> omega
  · intro k q hk hq
    by_cases hki : k = id
    · subst hki
      rw [ρt_eq] at hq
      have : q = v' := by
        unfold gvOf tradeH at hq
        rw [List.cons_append, lk_same] at hq
        simp only [hl, if_true, gx] at hq
        exact (Option.some.inj hq).symm
      subst this
      exact ⟨_, hgv, hlike⟩
    · rw [ρt_ne hki] at hq
      rcases trade_gv (L := L) (ρ := ρt id x) hh hN0 hg0 hq with ⟨_, h2, _⟩ | ⟨_, _, h2, _⟩
      · omega
      · exact ⟨q, h2, .inl rfl⟩
  · intro R' hR hrd _ k q hq
    obtain ⟨rfl, rfl⟩ := hN k q hq
    exact ⟨o, lk_same _ _ _, hO R' hR hrd⟩
/-- .. and put back. -/
theorem Rep.unfocus (r : Rep n cx g ⟨s, h, x⟩ a w) {id id' i j sz s' : Nat} {t e : TypeId} {rows : List (List N)} {ys : List (List D)} (hl : lk h id = some (.nest t sz rows (some (i, j, id')))) (hl' : lk h id' = some (.arr e s' ys)) (hij : i < rows.length ∧ j < sz) :
    ∃ g', Rep n cx g' ⟨renS (ρt id x) s, tradeH [(x, .nest t sz (putN rows i j (.own e s' ys)) none)] [id, id'] (ρt id x) h, x + 1⟩ a w := by
  obtain ⟨v, ms, us, hgv, e1, e2, e3, e4, e5, e6, e7⟩ := r.nest hl
  obtain ⟨v', ks, hgv', k1, k4, k5, k2, k3⟩ := r.arr hl'
  have hh : HRep cx g h x w := r.h
  have hne : id ≠ id' := by rintro rfl; rw [hl] at hl'; cases hl'
  obtain ⟨c, hc⟩ : ∃ c, (rows[i]?).bind (·[j]?) = some c := by
    have hr := e2 _ (List.getElem_mem hij.1)
    exact ⟨rows[i][j]'(by rw [hr]; exact hij.2), by rw [List.getElem?_eq_getElem hij.1]; exact List.getElem?_eq_getElem _⟩
  obtain ⟨m, u, hm, hu, hhole⟩ := e6 i j _ hc
  simp only [HoleRep, and_self, if_true] at hhole
  have hm' : m = v' := by
    cases hhole.1 with
    | ref _ _ _ _ h3 => exact (h3 _ hgv').trans (ownsRow_hd k1)
  have hplt : i * sz + j < us.length := (List.getElem?_eq_some_iff.1 hu).1
  have hmo : v'.oneCell' = true := by rw [← hm']; exact e4 m (List.mem_of_getElem? hm)
  have hus : ∀ (p : Nat) (q : Value), (v :: us.set (i * sz + j) v')[p]? = some q → (p ≠ i * sz + j + 1 ∧ (v :: us)[p]? = some q) ∨ (p = i * sz + j + 1 ∧ q = v') := by
    intro p q hq
    cases p with
    | zero => exact .inl ⟨by omega, hq⟩
    | succ p =>
      rw [List.getElem?_cons_succ] at hq ⊢
      rw [List.getElem?_set] at hq
      by_cases hp : i * sz + j = p
      · rw [if_pos hp, if_pos hplt] at hq
        exact .inr ⟨by omega, (Option.some.inj hq).symm⟩
      · rw [if_neg hp] at hq
        exact .inl ⟨by omega, hq⟩
  refine ⟨setG g x (.agg (v :: us.set (i * sz + j) v').toArray), r.trade1 (by simp) hgv rfl (.inr ⟨rfl, row_is e1⟩) (fun b hb => ?_) (fun R' _ hrd => ?_)⟩
  · obtain ⟨p, q, h1, h2⟩ := agg_blk hb
    rcases hus p q h1 with ⟨_, h3⟩ | ⟨_, rfl⟩
    · exact ⟨id, by simp, _, hgv, blk_agg h3 h2⟩
    · exact ⟨id', by simp, _, hgv', .inl h2⟩
  · refine .nest t sz _ _ v ms _ (by rw [putN_length]; exact e1) (putN_row e2) (by rw [putN_length]; exact e3) e4 (by rw [List.length_set]; exact e5) (fun i' j' c' hc' => ?_) ?_
    · rcases putN_get hc' with ⟨rfl, rfl, rfl, _⟩ | ⟨hne', h1⟩
      · refine ⟨m, v', hm, by rw [List.getElem?_set, if_pos rfl, if_pos hplt], ?_⟩
        refine ⟨⟨⟨ks, by rw [hm']; exact k1, k2, fun i j d hd => let ⟨k, hk, hd⟩ := k3 i j d hd; ⟨k, hk, hd.mono hrd⟩⟩, k4, k5⟩, by rw [hm']⟩
      · obtain ⟨m2, u2, q1, q2, q3⟩ := e6 i' j' c' h1
        obtain ⟨_, hj'⟩ := cell_lt e2 h1
        simp only [HoleRep, if_neg hne'] at q3
        refine ⟨m2, u2, q1, ?_, NRep.free q3 hrd⟩
        rw [List.getElem?_set, if_neg (fun e => hne' (pos_inj hij.2 hj' e))]
        exact q2
    · have cross : ∀ (p : Nat) (q : Value) (k : Nat), (v :: us)[p]? = some q → blk q = some k → blk v' = some k → False := fun p q k h1 h2 h3 => hne (hh.apart _ _ _ _ _ hgv hgv' (blk_agg h1 h2) (.inl h3))
      intro p q u1 u2 k h1 h2 h3 h4
      rcases hus p u1 h1 with ⟨_, a1⟩ | ⟨a1, rfl⟩ <;> rcases hus q u2 h2 with ⟨_, b1⟩ | ⟨b1, rfl⟩
      · exact e7 p q u1 u2 k a1 b1 h3 h4
      · exact (cross p u1 k a1 h3 h4).elim
      · exact (cross q u2 k b1 h4 h3).elim
      · rw [a1, b1]
/-- A datum as a nest's cell: a nil slice may be an inner array. -/
def NOk (d : D) (c : N) : Prop := c = .dat d ∨ (d = .val (.slice none 0 0) ∧ ∃ e s, c = .own e s [])
theorem NOk.rep {R : Addr → Value → Prop} {w : World} {d : D} {c : N} {m : Value} (h : NOk d c) (hd : DRep R d m) : NRep R w c m undef := by
  rcases h with rfl | ⟨rfl, e, s, rfl⟩
  · exact ⟨hd, rfl⟩
  · cases hd with
    | val => exact ⟨⟨⟨[], World.ownsRow_nil _ _ _ _, (fun k hk => by cases hk), (fun i j d hd => by simp at hd)⟩, (fun row hr => by cases hr), Nat.zero_le _⟩, rfl⟩
theorem none_blk {v : Value} {k p l : Nat} {q : Value} (h : (v :: List.replicate l undef)[p]? = some q) (hk : blk q = some k) : p = 0 ∧ q = v := by
  cases p with
  | zero => simp at h; exact ⟨rfl, h.symm⟩
  | succ p =>
    rw [List.getElem?_cons_succ, List.getElem?_replicate] at h
    split at h
    · obtain rfl := Option.some.inj h; cases hk
    · cases h
/-- A row of data as a nest's row. -/
inductive ROk : List D → List N → Prop
  | nil : ROk [] []
  | cons {d : D} {c : N} {ds : List D} {cs : List N} : NOk d c → ROk ds cs → ROk (d :: ds) (c :: cs)
theorem ROk.length {ds : List D} {cs : List N} (h : ROk ds cs) : cs.length = ds.length := by
  induction h with
  | nil => rfl
  | cons _ _ ih => simp [ih]
theorem ROk.get {ds : List D} {cs : List N} (h : ROk ds cs) : ∀ (j : Nat) (c : N), cs[j]? = some c → ∃ d, ds[j]? = some d ∧ NOk d c := by
  induction h with
  | nil => intro j c hc; simp at hc
  | cons h1 _ ih =>
    intro j c hc
    cases j with
    | zero => simp at hc; subst hc; exact ⟨_, rfl, h1⟩
    | succ j => simpa using ih j c (by simpa using hc)
theorem NOk.dat (d : D) : NOk d (.dat d) := .inl rfl
theorem NOk.nil (e : TypeId) (s : Nat) : NOk (.val (.slice none 0 0)) (.own e s []) := .inr ⟨rfl, e, s, rfl⟩
/-- An array becomes a nest. -/
theorem Rep.turn (r : Rep n cx g ⟨s, h, x⟩ a w) {id sz : Nat} {t : TypeId} {xs : List (List D)} (φ : List D → List N) (hl : lk h id = some (.arr t sz xs)) (hφ : ∀ row ∈ xs, ROk row (φ row)) :
    ∃ g', Rep n cx g' ⟨renS (ρt id x) s, tradeH [(x, .nest t sz (xs.map φ) none)] [id] (ρt id x) h, x + 1⟩ a w := by
  obtain ⟨v, ms, hgv, e1, e2, e3, e4, e5⟩ := r.arr hl
  refine ⟨setG g x (.agg (v :: List.replicate ms.length undef).toArray), r.trade1 (by simp) hgv rfl (.inr ⟨(ownsRow_hd e1), row_is e1⟩) (fun b hb => ?_) (fun R' _ hrd => ?_)⟩
  · obtain ⟨p, q, h1, h2⟩ := agg_blk hb
    obtain ⟨_, rfl⟩ := none_blk h1 h2
    exact ⟨id, by simp, _, hgv, .inl h2⟩
  · refine .nest t sz _ _ v ms _ (by rw [List.length_map]; exact e1) (fun row hr => ?_) (by rw [List.length_map]; exact e3) e4 (by simp) (fun i j c hc => ?_) ?_
    · obtain ⟨q, hq, rfl⟩ := List.mem_map.1 hr
      rw [(hφ q hq).length]; exact e2 q hq
    · obtain ⟨row', h1, h2⟩ := Option.bind_eq_some_iff.1 hc
      rw [List.getElem?_map] at h1
      obtain ⟨row, h3, rfl⟩ := Option.map_eq_some_iff.1 h1
      obtain ⟨d, h4, h5⟩ := (hφ row (List.mem_of_getElem? h3)).get j c h2
      obtain ⟨m, hm, hr⟩ := e5 i j d (by rw [h3]; exact h4)
      exact ⟨m, undef, hm, by rw [List.getElem?_replicate, if_pos (List.getElem?_eq_some_iff.1 hm).1], h5.rep (hr.mono hrd)⟩
    · intro p q u1 u2 k h1 h2 h3 h4
      rw [(none_blk h1 h3).1, (none_blk h2 h4).1]
/-- A nest becomes an array of data: its inner arrays are nobody's any more. -/
theorem Rep.loose (r : Rep n cx g ⟨s, h, x⟩ a w) {id sz : Nat} {t : TypeId} {rows : List (List N)} (hl : lk h id = some (.nest t sz rows none)) :
    ∃ g', Rep n cx g' ⟨renS (ρt id x) s, tradeH [(x, .arr t sz (rows.map fun r => r.map N.toD))] [id] (ρt id x) h, x + 1⟩ a w := by
  obtain ⟨v, ms, us, hgv, e1, e2, e3, e4, e5, e6, e7⟩ := r.nest hl
  have hh : HRep cx g h x w := r.h
  have hv1 : hdV v = v := ownsRow_hd e1
  have hvo : v.oneCell' = true := by
    rcases e1.2 with ⟨rfl, _⟩ | ⟨_, _, _, rfl, _⟩ <;> rfl
  refine ⟨setG g x v, r.trade1 (by simp) hgv rfl (.inr ⟨hv1.symm, row_like e1⟩) (fun b hb => ?_) (fun R' hR' hrd => ?_)⟩
  · exact ⟨id, by simp, _, hgv, .main (hb.inv hvo)⟩
  · refine .arr t sz _ v ms (by rw [List.length_map]; exact e1) (fun row hr => ?_) (by rw [List.length_map]; exact e3) e4 (fun i j c hc => ?_)
    · obtain ⟨q, hq, rfl⟩ := List.mem_map.1 hr
      rw [List.length_map]; exact e2 q hq
    · rw [rows_get] at hc
      obtain ⟨c', hc', rfl⟩ := Option.map_eq_some_iff.1 hc
      obtain ⟨m, u, hm, hu, hr⟩ := e6 i j c' hc'
      refine ⟨m, hm, ?_⟩
      simp only [HoleRep] at hr
      cases c' with
      | dat d => exact hr.1.mono hrd
      | own e s' ys =>
        obtain ⟨⟨⟨ks, k1, k2, k3⟩, k4, k5⟩, hbu⟩ := hr
        simp only [N.toD]
        have k1' := k1
        rcases k1.2 with ⟨rfl, h0'⟩ | ⟨bb, cap, cur, hmv, _⟩
        · rw [List.eq_nil_of_length_eq_zero h0']; exact .nil _ _ _
        · subst hmv
          have hcap : ys.length ≤ cap := by
            rcases k1'.2 with ⟨h, _⟩ | ⟨bb', cap', cur', h, h1, h2, h3⟩
            · cases h
            · cases h; exact h3.1
          have hub : blk u = some bb := hbu
          have hin : Blk (.agg (v :: us).toArray) bb := .inner hu hub
          have hfree : ¬ cx.z bb ∧ ¬ Own (tradeH [(x, .arr t sz (rows.map fun r => r.map N.toD))] [id] (ρt id x) h) (setG g x v) bb := by
            refine ⟨fun hz => ?_, ?_⟩
            · obtain ⟨q1, q2⟩ := hh.apz _ hz
              rcases (hh.mine _ _ _ hgv hin).2 with h | h
              · exact q2 h
              · omega
            · rintro ⟨k, q, h1, h2⟩
              rcases trade_gv (L := [id]) (ρ := ρt id x) hh (fun k p hk => by
                simp only [lk_cons] at hk
                split at hk
                · omega
                · cases hk) (fun k hk => by simp only [setG]; rw [if_neg (by omega)]) h1 with ⟨h3, _⟩ | ⟨h3, _, h4, _⟩
              · have hq : q = v := by
                  unfold gvOf at h3
                  by_cases hk : x = k
                  · subst hk
                    rw [lk_same] at h3
                    simp only [O.live, if_true, setG] at h3
                    exact (Option.some.inj h3).symm
                  · rw [lk_other _ _ hk] at h3; cases h3
                subst hq
                have := e7 0 (i * sz + j + 1) q u bb rfl (by rw [List.getElem?_cons_succ]; exact hu) (h2.inv hvo) hub
                omega
              · have := hh.apart _ _ _ _ _ h4 hgv h2 hin
                subst this; simp at h3
          have hcell : ∀ p k, ks[p]? = some k → R' ((⟨bb, 0, none⟩ : Addr).add p) k := fun p k hk => by
            have hc := k1.cells (g := bb) rfl p k hk
            have hblk : ((⟨bb, 0, none⟩ : Addr).add p).block = bb := by unfold Addr.add; split <;> rfl
            rw [hR']
            exact ⟨by rw [hblk]; exact hfree.1, by rw [hblk]; exact hfree.2, hc⟩
          refine .sl s' ys ⟨bb, 0, none⟩ cap (fun i j => ks.getD (i * s' + j) undef) hcap k5 k4 (fun i j d hd => ?_) (fun i j d hd => ?_)
          · obtain ⟨k, hk, _⟩ := k3 i j d hd
            rw [List.getD_eq_getElem?_getD, hk]; exact hcell _ _ hk
          · obtain ⟨k, hk, hr⟩ := k3 i j d hd
            rw [List.getD_eq_getElem?_getD, hk]; exact hr.mono hrd
end
end Go.Proofs.Ytdkgbkmaeeicoaa.V
/- The value layer, 33: nests: lengths, addresses, loads, stores, append. -/
namespace Go.Proofs.Ytdkgbkmaeeicoaa.V
open Go Go.RowKit Go.Proofs.YtdkgbkmaeeicoaaW.PrintWords
section
variable {P : Program} {n : Nat} {cx : Cx} {st : St} {o : Oper} {m : List Nat}
theorem VPure.len_nest {x : Operand} {t e e' : TypeId} {id sz : Nat} {rows : List (List N)} {hole : Option (Nat × Nat × Nat)} (hu : P.underlying t = some (.slice e)) (ho : o.op = .call { callee := .builtin .len, args := #[x], argTypes := #[t] }) (hx : ev st.s x = some (.ref id)) (hh : lk st.h id = some (.nest e' sz rows hole)) : VPure P n cx o st (.val (.int .i64 rows.length)) := fun g a w r => by
  have h1 := ev_rep r hx
  obtain ⟨v, ms, us, hgv, e1, _⟩ := r.nest hh
  generalize he : a.eval x = m at h1
  cases h1 with
  | ref _ _ h2 h0 h3 =>
    have hm : m = v := h3 _ hgv
    refine ⟨_, .val _ rfl, fun w' => ?_⟩
    have hs : ∃ A c, m = .slice A rows.length c := by
      rw [hm]
      rcases e1.2 with ⟨rfl, h0⟩ | ⟨b, cap, cur, rfl, _⟩
      · exact ⟨none, 0, by rw [h0]⟩
      · exact ⟨_, _, rfl⟩
    obtain ⟨A, c, hs⟩ := hs
    unfold execOp; rw [ho]; simp [resolve, invoke, builtin, he, hs, Builtin.len_, run_underlying hu, goInt]
theorem nest_addr {g : Nat → Value} {a : Act} {w : World} (r : Rep n cx g st a w) {id sz : Nat} {t : TypeId} {rows : List (List N)} {hole : Option (Nat × Nat × Nat)} (hh : lk st.h id = some (.nest t sz rows hole)) (hne : 0 < rows.length) :
    ∃ bb cap us, gvOf st.h g id = some (.agg (.slice (some ⟨bb, 0, none⟩) rows.length cap :: us).toArray) := by
  obtain ⟨v, ms, us, hgv, e1, _⟩ := r.nest hh
  rcases e1.2 with ⟨rfl, h0'⟩ | ⟨bb, cap, cur, rfl, _⟩
  · omega
  · exact ⟨bb, cap, us, hgv⟩
theorem VPure.idx_nest {id s s' b b' : Nat} {t e e' : TypeId} {z z' : Value} {d' : TypeDesc} {k : IntKind} {i : Int} {x y : Operand} {rows : List (List N)} {hole : Option (Nat × Nat × Nat)} (ho : o.op = .indexAddr t x y) (hx : ev st.s x = some (.ref id)) (hy : ev st.s y = some (.val (.int k i))) (hh : lk st.h id = some (.nest e' s' rows hole)) [ht : TI P t (.slice e) s b z] [he : TI P e d' s' b' z'] (h0 : 0 ≤ i) (h1 : i < rows.length) :
    VPure P n cx o st (.ael id (i.toNat * s')) := fun g a w r => by
  have h2 := ev_rep r hx
  have h3 := (ev_rep r hy).val_inv
  obtain ⟨bb, cap, us, hgv⟩ := nest_addr r hh (by omega)
  generalize hex : a.eval x = mm at h2
  cases h2 with
  | ref _ _ h4 h5 h6 =>
    have hm : mm = .slice (some ⟨bb, 0, none⟩) rows.length cap := h6 _ hgv
    subst hm
    refine ⟨.pointer (some ((⟨bb, 0, none⟩ : Addr).add (i.toNat * s'))), .ael _ _ _ h4 rfl (fun vv ad nn c hb hh0 => ?_), fun w' => ?_⟩
    · rw [hgv] at hb
      obtain rfl := Option.some.inj hb
      have hh0 : Value.slice (some ⟨bb, 0, none⟩) rows.length cap = .slice (some ad) nn c := hh0
      injection hh0 with hb _ _; injection hb with hb
      rw [hb]
    · unfold execOp; rw [ho]; simp only [hex, h3]
      rw [Sem.run_bind, run_index_slice ht he h0 h1]; rfl
theorem ael_add {g : Nat → Value} {a : Act} {w : World} (r : Rep n cx g st a w) {id pos : Nat} {bb len cap : Nat} {us : List Value} {x : Operand} (hx : ev st.s x = some (.ael id pos)) (hgv : gvOf st.h g id = some (.agg (.slice (some ⟨bb, 0, none⟩) len cap :: us).toArray)) :
    a.eval x = .pointer (some ((⟨bb, 0, none⟩ : Addr).add pos)) ∧ ∀ q, VRep (Rd cx.z st.h g w) (gvOf st.h g) st.x (.ael id q) (.pointer (some ((⟨bb, 0, none⟩ : Addr).add q))) := by
  have h2 := ev_rep r hx
  generalize a.eval x = mm at h2
  cases h2 with
  | ael _ _ _ h4 h5 h6 =>
    refine ⟨h6 _ _ _ _ hgv rfl, fun q => .ael _ _ _ h4 rfl (fun vv ad nn c hb hh0 => ?_)⟩
    rw [hgv] at hb
    obtain rfl := Option.some.inj hb
    have hh0 : Value.slice (some ⟨bb, 0, none⟩) len cap = .slice (some ad) nn c := hh0
    injection hh0 with hb _ _; injection hb with hb
    rw [hb]
theorem VPure.field_nest {t i off : Nat} {x : Operand} {id pos : Nat} {e' : TypeId} {sz : Nat} {rows : List (List N)} {hole : Option (Nat × Nat × Nat)} (ho : o.op = .fieldAddr t x i) (hx : ev st.s x = some (.ael id pos)) (hh : lk st.h id = some (.nest e' sz rows hole)) (hne : 0 < rows.length) [fa : FA P t i off] : VPure P n cx o st (.ael id (pos + off)) := fun g a w r => by
  obtain ⟨fs, f, s, b, z, d', s', b', z', h1, h2, h3, h4, rfl⟩ := fa.ex
  obtain ⟨bb, cap, us, hgv⟩ := nest_addr r hh hne
  obtain ⟨e1, e2⟩ := ael_add r hx hgv
  refine ⟨_, e2 (pos + f.offset), fun w' => ?_⟩
  unfold execOp; rw [ho]; simp only [e1]
  rw [Sem.run_bind, run_field h1 h2 h3 h4, addr_add]; rfl
theorem nest_cell {g : Nat → Value} {a : Act} {w w' : World} (r : Rep n cx g st a w) {id sz : Nat} {e' : TypeId} {rows : List (List N)} {hole : Option (Nat × Nat × Nat)} (hh : lk st.h id = some (.nest e' sz rows hole)) (hm : id ∉ m)
    (hw' : ∀ k, k < w.heap.size → (∀ id ∈ m, ∀ v, gvOf st.h g id = some v → ¬ Blk v k) → w'.heap[k]? = w.heap[k]?) {bb cap : Nat} {us : List Value} (hgv : gvOf st.h g id = some (.agg (.slice (some ⟨bb, 0, none⟩) rows.length cap :: us).toArray)) {ms : List Value} (e1 : w.ownsRow 0 e' sz (.slice (some ⟨bb, 0, none⟩) rows.length cap) rows.length ms)
    (p : Nat) (u : Value) (hu : ms[p]? = some u) : w'.cell? ((⟨bb, 0, none⟩ : Addr).add p) = some u := by
  have hc := e1.cells (g := bb) rfl p u hu
  have hblk : ((⟨bb, 0, none⟩ : Addr).add p).block = bb := by unfold Addr.add; split <;> rfl
  have hlt := World.block_lt_of_cell? w _ hc
  rw [hblk] at hlt
  refine (World.cell?_of_block (w := w) ?_).trans hc
  rw [hblk]
  exact hw' bb hlt (fun id' hid v hv hbk => by
    have := r.h.apart _ _ _ _ _ hv hgv hbk (.main rfl)
    subst this; exact hm hid)
/-- A load of a nest's cell: what was taken out; or data. -/
theorem VLoad.hole {id id' pos i j sz b : Nat} {t e' : TypeId} {x : Operand} {d : TypeDesc} {s : Nat} {z : Value} {rows : List (List N)} (ho : o.op = .load t x) (hx : ev st.s x = some (.ael id pos)) (hh : lk st.h id = some (.nest e' sz rows (some (i, j, id')))) (hp : pos = i * sz + j) (hij : i < rows.length ∧ j < sz) [ht : TI P t d s b z] (hd : aggT d = false) (hm : id ∉ m) :
    VLoad P n cx m o st (.ref id') := fun g a w r => by
  obtain ⟨v, ms, us, hgv, e1, e2, e3, e4, e5, e6, e7⟩ := r.nest hh
  rcases e1.2 with ⟨rfl, h0'⟩ | ⟨bb, cap, cur, hv, _⟩
  · omega
  · subst hv
    obtain ⟨c, hc⟩ : ∃ c, (rows[i]?).bind (·[j]?) = some c := by
      have hr := e2 _ (List.getElem_mem hij.1)
      exact ⟨rows[i][j]'(by rw [hr]; exact hij.2), by rw [List.getElem?_eq_getElem hij.1]; exact List.getElem?_eq_getElem _⟩
    obtain ⟨u, u', hu, _, hr⟩ := e6 i j c hc
    simp only [HoleRep, and_self, if_true] at hr
    rw [← hp] at hu
    obtain ⟨q1, _⟩ := ael_add r hx hgv
    refine ⟨u, hr.1, fun w' hw' => ?_⟩
    have hcell := nest_cell r hh hm hw' hgv e1 pos u hu
    unfold execOp; rw [ho]; simp only [q1]
    rw [Sem.run_bind, run_load1 ht.und hd hcell]; rfl
theorem VLoad.dat {id pos i j sz b : Nat} {t e' : TypeId} {x : Operand} {d : TypeDesc} {s : Nat} {z : Value} {rows : List (List N)} {hole : Option (Nat × Nat × Nat)} {c : D} (ho : o.op = .load t x) (hx : ev st.s x = some (.ael id pos)) (hh : lk st.h id = some (.nest e' sz rows hole)) (hp : pos = i * sz + j) (hc : (rows[i]?).bind (·[j]?) = some (.dat c)) (hne : ∀ k, hole ≠ some (i, j, k)) [ht : TI P t d s b z] (hd : aggT d = false) (hm : id ∉ m) :
    VLoad P n cx m o st c.toV := fun g a w r => by
  obtain ⟨v, ms, us, hgv, e1, e2, e3, e4, e5, e6, e7⟩ := r.nest hh
  rcases e1.2 with ⟨rfl, h0'⟩ | ⟨bb, cap, cur, hv, _⟩
  · rw [List.eq_nil_of_length_eq_zero h0'] at hc; simp at hc
  · subst hv
    obtain ⟨u, u', hu, _, hr⟩ := e6 i j _ hc
    have hr : NRep (Rd cx.z st.h g w) w (.dat c) u u' := by
      match hole, hne, hr with
      | none, _, hr => exact hr
      | some (i', j', k), hne, hr =>
        simp only [HoleRep] at hr
        rw [if_neg (by rintro ⟨rfl, rfl⟩; exact hne k rfl)] at hr
        exact hr
    rw [← hp] at hu
    obtain ⟨q1, _⟩ := ael_add r hx hgv
    refine ⟨u, .of_D hr.1, fun w' hw' => ?_⟩
    have hcell := nest_cell r hh hm hw' hgv e1 pos u hu
    unfold execOp; rw [ho]; simp only [q1]
    rw [Sem.run_bind, run_load1 ht.und hd hcell]; rfl
end
end Go.Proofs.Ytdkgbkmaeeicoaa.V
/- The value layer, 34: nests: stores, append. -/
namespace Go.Proofs.Ytdkgbkmaeeicoaa.V
open Go Go.RowKit Go.Proofs.YtdkgbkmaeeicoaaW.PrintWords
theorem addr0 (bb pos : Nat) : (⟨bb, 0, none⟩ : Addr).add pos = ⟨bb, pos, none⟩ := by unfold Addr.add; split <;> simp_all
section
variable {P : Program} {n : Nat} {cx : Cx} {st : St} {o : Oper} {E : List PanicEntry → St → Prop}
/-- A store of one's own array into a nest's cell. -/
theorem VOp.store_nest {t e' : TypeId} {p x : Operand} {id id' pos i j sz : Nat} {rows : List (List N)} {hole : Option (Nat × Nat × Nat)} {d : TypeDesc} {b : Nat} {z : Value} (ho : o.op = .store t p x) (hp : ev st.s p = some (.ael id pos)) (hx : ev st.s x = some (.ref id')) (hh : lk st.h id = some (.nest e' sz rows hole)) (hpos : pos = i * sz + j) (hij : i < rows.length ∧ j < sz)
    (hfree : (∃ k, hole = some (i, j, k)) ∨ (hole = none ∧ ∃ c, (rows[i]?).bind (·[j]?) = some (.dat c))) [ht : TI P t d 1 b z] :
    VOp P n cx [id] o (fun v' h' x' => v' = .junk ∧ h' = (id, .nest e' sz rows (some (i, j, id'))) :: st.h ∧ x' = st.x) E st := fun g a w r Kc Q hk _ => by
  have hvx := ev_rep r hx
  obtain ⟨mv, hmv⟩ : ∃ mv, a.eval x = mv := ⟨_, rfl⟩
  rw [hmv] at hvx
  obtain ⟨v, ms, us, hgv, e1, e2, e3, e4, e5, e6, e7⟩ := r.nest hh
  have hmo : mv.oneCell' = true := hvx.one rfl
  have hcells : mv.cells = #[mv] := by cases mv <;> first | rfl | cases hmo
  rcases e1.2 with ⟨rfl, h0'⟩ | ⟨bb, cap, cur, hv, hb0, hb, hnc, hcm, hcs, htake⟩
  · omega
  · subst hv
    obtain ⟨q1, _⟩ := ael_add r hp hgv
    have hadd := addr0 bb pos
    have hpn : pos + 1 ≤ rows.length * sz := by
      rw [hpos]
      have : (i + 1) * sz ≤ rows.length * sz := Nat.mul_le_mul_right _ hij.1
      rw [Nat.add_mul, Nat.one_mul] at this
      omega
    have hcurn : rows.length * sz ≤ cur.size := by rw [hcs]; exact Nat.mul_le_mul_right _ hnc
    have hrun := run_store (v := mv) (off := pos) ht hb (by rw [hcells]; rfl) (fun u hu => by rw [hcells] at hu; simp at hu; rw [hu]; exact hmo) (by omega)
    rw [hcells] at hrun
    have hw : ∀ k, k ≠ bb → (w.setRow bb (splice cur.toList pos [mv]).toArray).heap[k]? = w.heap[k]? := fun k hne => setRow_other w bb k _ hne
    have hml : ms.length = rows.length * sz := e1.1
    have htk : (splice cur.toList pos [mv]).take (rows.length * sz) = splice ms pos [mv] := by
      rw [splice_take (by simpa using hpn) (by simpa using hcurn), htake]
    have hnx := change_next (o' := .nest e' sz rows (some (i, j, id'))) r.h hh rfl rfl hgv (.main rfl) (by simp) hw
    have hplt : i * sz + j < us.length := by rw [e5, hml, ← hpos]; omega
    have hget : ∀ q, (splice ms pos [mv])[q]? = if q = pos then some mv else ms[q]? := fun q => by
      rw [splice_get (by simp; omega)]
      by_cases hq : q = pos
      · subst hq; simp
      · rw [if_neg (by simp; omega), if_neg hq]
    unfold Oper.wp execOp
    rw [ho]
    simp only [q1, hmv, hadd, Sem.run_bind]
    have hrun' : (Instr.storeAt t (.pointer (some ⟨bb, pos, none⟩)) mv).run P w = .ok () (w.setRow bb (splice cur.toList pos [mv]).toArray) := hrun
    simp only [hrun', Result.andThen, Sem.run_pure, Oper.upon_skip]
    refine hk g .junk undef _ st.x _ ⟨rfl, rfl, rfl⟩ (r.h.change hh rfl rfl hgv (.main rfl) (by simp) hw rfl rfl rfl ?_) (.junk _) hnx (change_touch r.h hh rfl rfl hgv (.main rfl) hw)
    refine .nest e' sz rows _ _ (splice ms pos [mv]) us ⟨?_, .inr ⟨bb, cap, _, rfl, hb0, setRow_heap w bb cur _ e' _ hb, hnc, hcm, ?_, htk⟩⟩ e2 e3 ?_ ?_ (fun i' j' c hc => ?_) e7
    · rw [splice_length (by simp; omega)]; exact hml
    · rw [List.size_toArray, splice_length (by simp; omega)]; simpa using hcs
    · intro q hq
      obtain ⟨k, hk⟩ := List.getElem?_of_mem hq
      rw [hget] at hk
      split at hk
      · rw [← Option.some.inj hk]; exact hmo
      · exact e4 q (List.mem_of_getElem? hk)
    · rw [splice_length (by simp; omega)]; exact e5
    · obtain ⟨m1, u1, hm1, hu1, hr1⟩ := e6 i' j' c hc
      obtain ⟨_, hj'⟩ := cell_lt e2 hc
      by_cases hii : i = i' ∧ j = j'
      · obtain ⟨rfl, rfl⟩ := hii
        refine ⟨mv, u1, by rw [hget, if_pos hpos.symm], hu1, ?_⟩
        simp only [HoleRep, and_self, if_true]
        refine ⟨hnx.v hvx, ?_⟩
        rcases hfree with ⟨k, rfl⟩ | ⟨rfl, c', hc'⟩
        · simp only [HoleRep, and_self, if_true] at hr1; exact hr1.2
        · rw [hc] at hc'
          obtain rfl := Option.some.inj hc'
          exact hr1.2
      · have hne : i' * sz + j' ≠ pos := fun e => hii (pos_inj hij.2 hj' (by rw [e, hpos]))
        refine ⟨m1, u1, by rw [hget, if_neg hne]; exact hm1, hu1, ?_⟩
        have hr2 : NRep (Rd cx.z st.h g w) w c m1 u1 := by
          rcases hfree with ⟨k, rfl⟩ | ⟨rfl, _⟩
          · simp only [HoleRep, if_neg hii] at hr1; exact hr1
          · exact hr1
        simp only [HoleRep, if_neg hii]
        refine hr2.move hnx.m.rd (fun k hk => hw k (fun e => ?_))
        subst e
        have := e7 0 (i' * sz + j' + 1) _ u1 k rfl (by rw [List.getElem?_cons_succ]; exact hu1) rfl hk
        omega
/-- Rows of data stand behind a nest's. -/
theorem VOp.append_nest {t e : TypeId} {s b s' b' : Nat} {z z' : Value} {d' : TypeDesc} {p q : Operand} {v : V} {id : Nat} {rows : List (List N)} {ys : List (List D)} (φ : List D → List N) (ho : o.op = .call { callee := .builtin .append, args := #[p, q], argTypes := #[t, t] }) [ht : TI P t (.slice e) s b z] [he : TI P e d' s' b' z'] (hz : z'.cells.size = s') (hs0 : 0 < s')
    (hp : ev st.s p = some (.ref id)) (hh : lk st.h id = some (.nest e s' rows none)) (hq : ev st.s q = some v) (hsrc : Src st.h v s' ys) (hφ : ∀ row ∈ ys, ROk row (φ row)) (hl : (rows.length + ys.length) * b' ≤ most) (hl' : rows.length + ys.length ≤ most) :
    VOp P n cx [id] o (fun v' h' x' => v' = .ref st.x ∧ h' = (st.x, .nest e s' (rows ++ ys.map φ) none) :: (id, .dead) :: st.h ∧ x' = st.x + 1) E st := fun g a w r Kc Q hk _ => by
  obtain ⟨v0, ms, us, hgv, e1, e2, e3, e4, e5, e6, e7⟩ := r.nest hh
  obtain ⟨hmy, hsr⟩ := hsrc.rep r (ev_rep r hq)
  obtain ⟨i, hi, hisz, hiby, hiz⟩ := he.info
  have hpv := ev_rep r hp
  have hpe : a.eval p = v0 := by
    generalize a.eval p = mm at hpv
    cases hpv with
    | ref _ _ _ _ h3 => exact h3 _ hgv
  obtain ⟨A, c, hA, hAc⟩ : ∃ A c, v0 = .slice A rows.length c ∧ rows.length ≤ c := by
    rcases e1.2 with ⟨h1, h2⟩ | ⟨g', cap, cur, h1, _, _, h2, _⟩
    · exact ⟨none, 0, by rw [h1, h2], by omega⟩
    · exact ⟨_, cap, h1, h2⟩
  have hvo : v0.oneCell' = true := by rw [hA]; rfl
  have hbo : blk v0 = v0.ownBlock := blk_ownBlock hA
  have hOld : OldAt st.h g (some id) (.agg (v0 :: us).toArray) v0.ownBlock := ⟨hgv, fun k hk => .main (by rw [hbo]; exact hk)⟩
  have fin : ∀ (v' : Value) (w' : World) (ns : List Value), RowsM (Rd cx.z st.h g w) s' ys ns → (Builtin.append_ #[t, t] o.type #[a.eval p, a.eval q]).run P w = .ok v' w' → w'.ownsRow 0 e s' v' (rows.length + ys.length) (ms ++ ns) → w.grownBy w' v0.ownBlock →
      (∀ k, v'.ownBlock = some k → w.heap.size ≤ k ∧ k < w'.heap.size ∨ v0.ownBlock = some k) → o.wp P a w Kc Q := by
    intro v' w' ns hns hrun hown' hgr hat
    obtain ⟨A', c', hA'⟩ : ∃ A' c', v' = .slice A' (rows.length + ys.length) c' := by
      rcases hown'.2 with ⟨h1, h2⟩ | ⟨g', cap, cur, h1, _⟩
      · exact ⟨none, 0, by rw [h1, h2]⟩
      · exact ⟨_, cap, h1⟩
    have hbo' : blk v' = v'.ownBlock := blk_ownBlock hA'
    let us' := us ++ List.replicate ns.length undef
    have hus : ∀ (p : Nat) (u : Value) (k : Nat), us'[p]? = some u → blk u = some k → us[p]? = some u := by
      intro p u k hu hk
      simp only [us', List.getElem?_append] at hu
      split at hu
      · exact hu
      · rw [List.getElem?_replicate] at hu
        split at hu
        · obtain rfl := Option.some.inj hu; cases hk
        · cases hu
    have hv' : ∀ k, Blk (.agg (v' :: us').toArray) k → w.heap.size ≤ k ∧ k < w'.heap.size ∨ Blk (.agg (v0 :: us).toArray) k := fun k hk => by
      obtain ⟨p, u, h1, h2⟩ := agg_blk hk
      cases p with
      | zero =>
        simp at h1
        subst h1
        rw [hbo'] at h2
        exact (hat k h2).imp (fun h => h) (fun h => .main (by rw [hbo]; exact h))
      | succ p => exact .inr (.inner (hus p u k h1 h2) h2)
    have nx := move_next (o' := .nest e s' (rows ++ ys.map φ) none) r.h hOld hgr rfl hv'
    have hmv : VRep (Rd cx.z ((st.x, .nest e s' (rows ++ ys.map φ) none) :: gone (some id) st.h) (setG g st.x (.agg (v' :: us').toArray)) w') (gvOf ((st.x, .nest e s' (rows ++ ys.map φ) none) :: gone (some id) st.h) (setG g st.x (.agg (v' :: us').toArray))) (st.x + 1) (.ref st.x) v' := by
      refine .ref _ _ (Nat.lt_succ_self _) (by rw [hA']; rfl) (fun u hu => ?_)
      rw [gv_new rfl] at hu
      obtain rfl := Option.some.inj hu
      rfl
    have hmsl : ms.length = rows.length * s' := e1.1
    have hR := r.h.move (o' := .nest e s' (rows ++ ys.map φ) none) hOld hgr rfl hv' (by
      refine .nest e s' _ _ v' (ms ++ ns) us' (by rw [List.length_append, List.length_map]; exact hown') (fun row hr => ?_) (by rw [List.length_append, List.length_map]; exact hl') (fun m hm => ?_) (by simp [us', e5]) (fun i' j' c hc => ?_) ?_
      · rcases List.mem_append.1 hr with hr | hr
        · exact e2 row hr
        · obtain ⟨q, hq, rfl⟩ := List.mem_map.1 hr
          rw [(hφ q hq).length]; exact hns.row q hq
      · rcases List.mem_append.1 hm with hm | hm
        · exact e4 m hm
        · exact hns.one m hm
      · obtain ⟨row, hr, hj⟩ := Option.bind_eq_some_iff.1 hc
        rw [List.getElem?_append] at hr
        split at hr
        · rename_i hlt
          obtain ⟨m1, u1, h1, h2, h3⟩ := e6 i' j' c (by rw [hr]; exact hj)
          refine ⟨m1, u1, ?_, ?_, ?_⟩
          · rw [List.getElem?_append, if_pos (List.getElem?_eq_some_iff.1 h1).1]; exact h1
          · simp only [us']; rw [List.getElem?_append, if_pos (List.getElem?_eq_some_iff.1 h2).1]; exact h2
          · refine NRep.move h3 nx.m.rd (fun k hk => hgr.block k (r.h.mine _ _ _ hgv (.inner h2 hk)).1 (fun e => ?_))
            have := e7 0 (i' * s' + j' + 1) v0 u1 k rfl (by rw [List.getElem?_cons_succ]; exact h2) (by rw [hbo]; exact e.symm) hk
            omega
        · rename_i hlt
          rw [List.getElem?_map] at hr
          cases hy : ys[i' - rows.length]? with
          | none => rw [hy] at hr; cases hr
          | some yr =>
            rw [hy] at hr
            obtain rfl := Option.some.inj hr
            obtain ⟨dd, hdd, hok⟩ := (hφ yr (List.mem_of_getElem? hy)).get j' c hj
            obtain ⟨m1, h1, h2⟩ := hns.rep (i' - rows.length) j' dd (by rw [hy]; exact hdd)
            have epos : ms.length + ((i' - rows.length) * s' + j') = i' * s' + j' := by
              rw [hmsl]
              have : i' = rows.length + (i' - rows.length) := by omega
              rw [this, Nat.add_mul]
              have e : rows.length + (i' - rows.length) - rows.length = i' - rows.length := by omega
              rw [e]; omega
            refine ⟨m1, undef, ?_, ?_, ?_⟩
            · rw [List.getElem?_append, if_neg (by omega), show i' * s' + j' - ms.length = (i' - rows.length) * s' + j' from by omega]; exact h1
            · simp only [us']
              rw [List.getElem?_append, if_neg (by rw [e5]; omega), List.getElem?_replicate, if_pos (by rw [e5]; have := (List.getElem?_eq_some_iff.1 h1).1; omega)]
            · exact hok.rep (h2.mono nx.m.rd)
      · have cross : ∀ (p : Nat) (u : Value) (k : Nat), us'[p]? = some u → blk u = some k → blk v' = some k → False := fun p u k h1 h2 h3 => by
          have hu := hus p u k h1 h2
          have hlt := (r.h.mine _ _ _ hgv (.inner hu h2)).1
          rw [hbo'] at h3
          rcases hat k h3 with h4 | h4
          · omega
          · have := e7 0 (p + 1) v0 u k rfl (by rw [List.getElem?_cons_succ]; exact hu) (by rw [hbo]; exact h4) h2
            omega
        intro p q u1 u2 k h1 h2 h3 h4
        cases p with
        | zero =>
          cases q with
          | zero => rfl
          | succ q =>
            simp at h1; subst h1
            exact (cross q u2 k h2 h4 h3).elim
        | succ p =>
          cases q with
          | zero =>
            simp at h2; subst h2
            exact (cross p u1 k h1 h3 h4).elim
          | succ q => exact e7 (p + 1) (q + 1) u1 u2 k (hus p u1 k h1 h3) (hus q u2 k h2 h4) h3 h4)
    unfold Oper.wp execOp
    simp only [ho, resolve, invoke, builtin, Sem.run_bind, Sem.run_pure, Result.andThen_ok, List.map_toArray, List.map_cons, List.map_nil, hrun]
    exact hk _ _ _ _ _ _ ⟨rfl, rfl, rfl⟩ hR hmv nx (move_touch r.h hOld hgr rfl hv')
  have keep : ∀ A2 c2, a.eval q = .slice A2 0 c2 → ys = [] → o.wp P a w Kc Q := by
    intro A2 c2 hq2 hy
    subst hy
    refine fin v0 w [] RowsM.nil ?_ (by simpa using e1) ⟨rfl, rfl, rfl, Nat.le_refl _, fun _ _ _ => rfl⟩ (fun k hk => .inr hk)
    rw [hpe, hA, hq2]
    exact append_keep w t o.type e i ht.und hi A rows.length c hAc A2 c2
  rcases hsr with ⟨h1, h2⟩ | ⟨A2, c2, h1, h2⟩ | ⟨ad, c2, ns, h1, hns, hcell⟩
  · exact keep none 0 h1 h2
  · exact keep A2 c2 h1 h2
  · obtain ⟨v', w', hrun, hown', hgr, hnil, hat⟩ := run_append_own_at (P := P) w 0 t o.type e i z' s' b' ht.und hi hiz hisz hiby hz hs0 v0 rows.length ms e1 ad ys.length c2 ns hns.len hcell hns.one
      (by simp only [maxLen]; simp only [most] at hl'; omega) (by simp only [most] at hl; exact hl) (Nat.zero_le _)
    refine fin v' w' ns hns (by rw [hpe, h1]; exact hrun) hown' hgr (fun k hk => ?_)
    rcases hat with hat | hat
    · exact .inr (by rw [← hat]; exact hk)
    · rw [hat] at hk
      obtain rfl := Option.some.inj hk
      exact .inl ⟨Nat.le_refl _, own_lt hown' _ hat⟩
end
end Go.Proofs.Ytdkgbkmaeeicoaa.V
/- The value layer, 35: nests in the walk; nil pointers; maps whose keys are structs. -/
namespace Go.Proofs.Ytdkgbkmaeeicoaa.V
open Go Go.RowKit Go.Proofs.YtdkgbkmaeeicoaaW.PrintWords
section
variable {P : Program} {n : Nat} {cx : Cx} {Q : VExit → St → Prop} {s : List (Nat × V)} {h : Heap} {x : Nat} {c : Code} {m : List Nat} {ops : Array Oper} {K : St → Prop} {E : List PanicEntry → St → Prop} {k : Nat} {rest : List Oper}
theorem VCode.focus {id sz s' : Nat} {t e : TypeId} {rows : List (List N)} {ys : List (List D)} (i j : Nat) (hl : lk h id = some (.nest t sz rows none)) (hc : (rows[i]?).bind (·[j]?) = some (.own e s' ys))
    (H : VCode P n cx c Q ⟨renS (ρt id (x + 1)) s, tradeH [(x + 1, .nest t sz rows (some (i, j, x))), (x, .arr e s' ys)] [id] (ρt id (x + 1)) h, x + 2⟩) : VCode P n cx c Q ⟨s, h, x⟩ := fun g a w r =>
  let ⟨_, r'⟩ := r.focus hl hc; H _ a w r'
theorem VOps.focus {id sz s' : Nat} {t e : TypeId} {rows : List (List N)} {ys : List (List D)} (i j : Nat) (hl : lk h id = some (.nest t sz rows none)) (hc : (rows[i]?).bind (·[j]?) = some (.own e s' ys))
    (H : VOps P n cx 0 m ops K E k rest ⟨renS (ρt id (x + 1)) s, tradeH [(x + 1, .nest t sz rows (some (i, j, x))), (x, .arr e s' ys)] [id] (ρt id (x + 1)) h, x + 2⟩) : VOps P n cx 0 m ops K E k rest ⟨s, h, x⟩ := fun h1 h2 g a w r =>
  let ⟨_, r'⟩ := r.focus hl hc; H h1 h2 _ a w r'
theorem VCode.unfocus {id id' i j sz s' : Nat} {t e : TypeId} {rows rows' : List (List N)} {ys : List (List D)} (hl : lk h id = some (.nest t sz rows (some (i, j, id')))) (hl' : lk h id' = some (.arr e s' ys)) (hij : i < rows.length ∧ j < sz) (hr : putN rows i j (.own e s' ys) = rows')
    (H : VCode P n cx c Q ⟨renS (ρt id x) s, tradeH [(x, .nest t sz rows' none)] [id, id'] (ρt id x) h, x + 1⟩) : VCode P n cx c Q ⟨s, h, x⟩ := fun g a w r => by
  subst hr
  obtain ⟨_, r'⟩ := r.unfocus hl hl' hij
  exact H _ a w r'
theorem VOps.unfocus {id id' i j sz s' : Nat} {t e : TypeId} {rows rows' : List (List N)} {ys : List (List D)} (hl : lk h id = some (.nest t sz rows (some (i, j, id')))) (hl' : lk h id' = some (.arr e s' ys)) (hij : i < rows.length ∧ j < sz) (hr : putN rows i j (.own e s' ys) = rows')
    (H : VOps P n cx 0 m ops K E k rest ⟨renS (ρt id x) s, tradeH [(x, .nest t sz rows' none)] [id, id'] (ρt id x) h, x + 1⟩) : VOps P n cx 0 m ops K E k rest ⟨s, h, x⟩ := fun h1 h2 g a w r => by
  subst hr
  obtain ⟨_, r'⟩ := r.unfocus hl hl' hij
  exact H h1 h2 _ a w r'
theorem VCode.turn {id sz : Nat} {t : TypeId} {xs : List (List D)} {rows : List (List N)} (φ : List D → List N) (hl : lk h id = some (.arr t sz xs)) (hφ : ∀ row ∈ xs, ROk row (φ row)) (hr : xs.map φ = rows)
    (H : VCode P n cx c Q ⟨renS (ρt id x) s, tradeH [(x, .nest t sz rows none)] [id] (ρt id x) h, x + 1⟩) : VCode P n cx c Q ⟨s, h, x⟩ := fun g a w r => by
  subst hr
  obtain ⟨_, r'⟩ := r.turn φ hl hφ
  exact H _ a w r'
theorem VOps.turn {id sz : Nat} {t : TypeId} {xs : List (List D)} {rows : List (List N)} (φ : List D → List N) (hl : lk h id = some (.arr t sz xs)) (hφ : ∀ row ∈ xs, ROk row (φ row)) (hr : xs.map φ = rows)
    (H : VOps P n cx 0 m ops K E k rest ⟨renS (ρt id x) s, tradeH [(x, .nest t sz rows none)] [id] (ρt id x) h, x + 1⟩) : VOps P n cx 0 m ops K E k rest ⟨s, h, x⟩ := fun h1 h2 g a w r => by
  subst hr
  obtain ⟨_, r'⟩ := r.turn φ hl hφ
  exact H h1 h2 _ a w r'
theorem VCode.loose {id sz : Nat} {t : TypeId} {rows : List (List N)} {xs : List (List D)} (hl : lk h id = some (.nest t sz rows none)) (hr : (rows.map fun r => r.map N.toD) = xs)
    (H : VCode P n cx c Q ⟨renS (ρt id x) s, tradeH [(x, .arr t sz xs)] [id] (ρt id x) h, x + 1⟩) : VCode P n cx c Q ⟨s, h, x⟩ := fun g a w r => by
  subst hr
  obtain ⟨_, r'⟩ := r.loose hl
  exact H _ a w r'
/-- A nest under a new name. -/
theorem VCode.again {id sz : Nat} {t : TypeId} {rows : List (List N)} (hl : lk h id = some (.nest t sz rows none))
    (H : VCode P n cx c Q ⟨renS (ρt id x) s, tradeH [(x, .nest t sz rows none)] [id] (ρt id x) h, x + 1⟩) : VCode P n cx c Q ⟨s, h, x⟩ := fun g a w r => by
  obtain ⟨v, ms, us, hgv, e1, e2, e3, e4, e5, e6, e7⟩ := r.nest hl
  refine H _ a w (r.trade1 (by simp) hgv rfl (.inl rfl) (fun b hb => ⟨id, by simp, _, hgv, hb⟩) (fun R' _ hrd => ?_))
  exact .nest t sz rows none v ms us e1 e2 e3 e4 e5 (fun i j c hc => let ⟨m, u, h1, h2, h3⟩ := e6 i j c hc; ⟨m, u, h1, h2, NRep.free h3 hrd⟩) e7
end
section
variable {P : Program} {n : Nat} {cx : Cx} {ops : Array Oper} {K : St → Prop} {E : List PanicEntry → St → Prop} {i : Nat} {o : Oper} {rest : List Oper} {s : List (Nat × V)} {h : Heap} {x dd dr : Nat} {m : List Nat}
theorem VOps.store_nest {t e' : TypeId} {p y : Operand} {id id' pos k j sz : Nat} {rows : List (List N)} {hole : Option (Nat × Nat × Nat)} {d : TypeDesc} {b : Nat} {z : Value} (ho : o.op = .store t p y) (hw : wantedV ops o s = some true) (hs : okM dr ops i m [id] = true) (hd : o.dst = none) (hp : ev s p = some (.ael id pos)) (hx : ev s y = some (.ref id')) (hh : lk h id = some (.nest e' sz rows hole)) (hpos : pos = k * sz + j) (hij : k < rows.length ∧ j < sz)
    (hfree : (∃ q, hole = some (k, j, q)) ∨ (hole = none ∧ ∃ c, (rows[k]?).bind (·[j]?) = some (.dat c))) [ht : TI P t d 1 b z]
    (h2 : VOps P n cx (nxt dr) m ops K E (i + 1) rest ⟨s, (id, .nest e' sz rows (some (k, j, id'))) :: h, x⟩) : VOps P n cx dr m ops K E i (o :: rest) ⟨s, h, x⟩ := VOps.oo0 hw hs hd (VOp.store_nest ho hp hx hh hpos hij hfree) h2
theorem VOps.append_nest {t e : TypeId} {sz b s' b' : Nat} {z z' : Value} {d' : TypeDesc} {p q : Operand} {v : V} {id : Nat} {rows rows' : List (List N)} {ys : List (List D)} (φ : List D → List N) (ho : o.op = .call { callee := .builtin .append, args := #[p, q], argTypes := #[t, t] }) (hw : wantedV ops o s = some true) (hs : okM dr ops i m [id] = true) (hd : o.dst = some dd) [ht : TI P t (.slice e) sz b z] [he : TI P e d' s' b' z'] (hz : z'.cells.size = s') (hs0 : 0 < s')
    (hp : ev s p = some (.ref id)) (hh : lk h id = some (.nest e s' rows none)) (hq : ev s q = some v) (hsrc : Src h v s' ys) (hφ : ∀ row ∈ ys, ROk row (φ row)) (hl : (rows.length + ys.length) * b' ≤ most) (hl' : rows.length + ys.length ≤ most) (hr : rows ++ ys.map φ = rows')
    (h2 : VOps P n cx (nxt dr) m ops K E (i + 1) rest ⟨(dd, .ref x) :: s, (x, .nest e s' rows' none) :: (id, .dead) :: h, x + 1⟩) : VOps P n cx dr m ops K E i (o :: rest) ⟨s, h, x⟩ := VOps.oo hw hs hd (VOp.append_nest φ ho hz hs0 hp hh hq hsrc hφ hl hl') (by rw [hr]; exact h2)
theorem rows_map {α : Type} {f : α → List N} {l : List α} {i j : Nat} {u : α} {c : N} (h : l[i]? = some u) (hj : (f u)[j]? = some c) : (((l.map f)[i]?).bind (·[j]?)) = some c := by
  rw [List.getElem?_map, h]; exact hj
theorem putN_map {α : Type} {f : α → List N} {l : List α} {i j : Nat} {u u' : α} {c : N} (h : l[i]? = some u) (hj : (f u).set j c = f u') : putN (l.map f) i j c = (l.set i u').map f := by
  unfold putN
  apply List.ext_getElem?
  intro k
  rw [List.getElem?_modify, List.getElem?_map, List.getElem?_map, List.getElem?_set]
  by_cases hk : i = k
  · subst hk
    have hlt := (List.getElem?_eq_some_iff.1 h).1
    have hu := (List.getElem?_eq_some_iff.1 h).2
    simp [h, hlt, hu, hj]
  · simp [hk]
theorem VLoad.datm {α : Type} {f : α → List N} {l : List α} {u : α} {P : Program} {n : Nat} {cx : Cx} {st : St} {o : Oper} {m : List Nat} {id pos i j sz b : Nat} {t e' : TypeId} {x : Operand} {d : TypeDesc} {s : Nat} {z : Value} {c : D} (ho : o.op = .load t x) (hx : ev st.s x = some (.ael id pos)) (hh : lk st.h id = some (.nest e' sz (l.map f) none)) (hp : pos = i * sz + j) (hu : l[i]? = some u) (hc : (f u)[j]? = some (.dat c)) [ht : TI P t d s b z] (hd : aggT d = false) (hm : id ∉ m) :
    VLoad P n cx m o st c.toV := VLoad.dat ho hx hh hp (rows_map hu hc) (fun _ h => by cases h) hd hm
end
/-! ### nil pointers -/
section
variable {P : Program} {n : Nat} {cx : Cx} {st : St} {o : Oper} {x y : Operand} {t t' e : TypeId}
theorem equal_ptr_nil (hu : P.underlying t = some (.pointer e)) (p : Option Addr) (w : World) : (Op.equal t (.pointer p) (.pointer none)).run P w = .ok p.isNone w := by
  show (Op.equalIn (9999 + 1) t _ _).run P w = _
  rw [Op.equalIn, Sem.run_bind, run_underlying hu]
  cases p <;> rfl
theorem VPure.nil_el {cs : List D} (ho : o.op = .binOp .eql t x y t') (hu : P.underlying t = some (.pointer e)) (hx : ev st.s x = some (.el cs)) (hy : ev st.s y = some (.val (.pointer none))) : VPure P n cx o st (.val (.bool false)) := fun g a w r => ⟨_, .val _ rfl, fun w' => by
  have h1 := ev_rep r hx
  have h2 := (ev_rep r hy).val_inv
  generalize he : a.eval x = mm at h1
  cases h1 with
  | el _ ad _ =>
    unfold execOp; rw [ho]; simp only [he, h2]
    show ((Op.equal t _ _ >>= _) >>= _).run P w' = _
    rw [Sem.run_bind, Sem.run_bind, equal_ptr_nil hu]; rfl⟩
theorem VPure.nnil_el {cs : List D} (ho : o.op = .binOp .neq t x y t') (hu : P.underlying t = some (.pointer e)) (hx : ev st.s x = some (.el cs)) (hy : ev st.s y = some (.val (.pointer none))) : VPure P n cx o st (.val (.bool true)) := fun g a w r => ⟨_, .val _ rfl, fun w' => by
  have h1 := ev_rep r hx
  have h2 := (ev_rep r hy).val_inv
  generalize he : a.eval x = mm at h1
  cases h1 with
  | el _ ad _ =>
    unfold execOp; rw [ho]; simp only [he, h2]
    show ((Op.equal t _ _ >>= _) >>= _).run P w' = _
    rw [Sem.run_bind, Sem.run_bind, equal_ptr_nil hu]; rfl⟩
theorem ptr_of {g : Nat → Value} {a : Act} {w : World} (r : Rep n cx g st a w) {id off : Nat} {tt : TypeId} {cs : List V} (hx : ev st.s x = some (.ptr id off)) (hh : lk st.h id = some (.cells tt cs)) : ∃ b, a.eval x = .pointer (some ⟨b, off, none⟩) := by
  obtain ⟨b, ms, hgv, _⟩ := r.box hh
  have h1 := ev_rep r hx
  generalize a.eval x = mm at h1
  cases h1 with
  | ptr _ _ _ _ _ h3 => exact ⟨b, h3 b hgv⟩
theorem VPure.nil_ptr {id off : Nat} {tt : TypeId} {cs : List V} (ho : o.op = .binOp .eql t x y t') (hu : P.underlying t = some (.pointer e)) (hx : ev st.s x = some (.ptr id off)) (hh : lk st.h id = some (.cells tt cs)) (hy : ev st.s y = some (.val (.pointer none))) : VPure P n cx o st (.val (.bool false)) := fun g a w r => ⟨_, .val _ rfl, fun w' => by
  obtain ⟨b, he⟩ := ptr_of r hx hh
  have h2 := (ev_rep r hy).val_inv
  unfold execOp; rw [ho]; simp only [he, h2]
  show ((Op.equal t _ _ >>= _) >>= _).run P w' = _
  rw [Sem.run_bind, Sem.run_bind, equal_ptr_nil hu]; rfl⟩
theorem VPure.nnil_ptr {id off : Nat} {tt : TypeId} {cs : List V} (ho : o.op = .binOp .neq t x y t') (hu : P.underlying t = some (.pointer e)) (hx : ev st.s x = some (.ptr id off)) (hh : lk st.h id = some (.cells tt cs)) (hy : ev st.s y = some (.val (.pointer none))) : VPure P n cx o st (.val (.bool true)) := fun g a w r => ⟨_, .val _ rfl, fun w' => by
  obtain ⟨b, he⟩ := ptr_of r hx hh
  have h2 := (ev_rep r hy).val_inv
  unfold execOp; rw [ho]; simp only [he, h2]
  show ((Op.equal t _ _ >>= _) >>= _).run P w' = _
  rw [Sem.run_bind, Sem.run_bind, equal_ptr_nil hu]; rfl⟩
theorem VPure.nil_nil (ho : o.op = .binOp .eql t x y t') (hu : P.underlying t = some (.pointer e)) (hx : ev st.s x = some (.val (.pointer none))) (hy : ev st.s y = some (.val (.pointer none))) : VPure P n cx o st (.val (.bool true)) := .bin ho hx hy (fun w => by
  show (Op.equal t _ _ >>= _).run P w = _
  rw [Sem.run_bind, equal_ptr_nil hu]; rfl)
theorem VPure.nnil_nil (ho : o.op = .binOp .neq t x y t') (hu : P.underlying t = some (.pointer e)) (hx : ev st.s x = some (.val (.pointer none))) (hy : ev st.s y = some (.val (.pointer none))) : VPure P n cx o st (.val (.bool false)) := .bin ho hx hy (fun w => by
  show (Op.equal t _ _ >>= _).run P w = _
  rw [Sem.run_bind, equal_ptr_nil hu]; rfl)
theorem VPure.nilCheck_el {cs : List D} (ho : o.op = .nilCheck x) (hx : ev st.s x = some (.el cs)) : VPure P n cx o st (.el cs) := fun g a w r => by
  have h1 := ev_rep r hx
  generalize he : a.eval x = mm at h1
  cases h1 with
  | el _ ad hh => exact ⟨.pointer (some ad), .el _ ad hh, fun w' => by unfold execOp; rw [ho]; simp only [he]; rfl⟩
theorem VPure.nilCheck_ptr {id off : Nat} {tt : TypeId} {cs : List V} (ho : o.op = .nilCheck x) (hx : ev st.s x = some (.ptr id off)) (hh : lk st.h id = some (.cells tt cs)) : VPure P n cx o st (.ptr id off) := fun g a w r => by
  obtain ⟨b, he⟩ := ptr_of r hx hh
  refine ⟨a.eval x, ev_rep r hx, fun w' => ?_⟩
  unfold execOp; rw [ho]; simp only [he]; rfl
end
end Go.Proofs.Ytdkgbkmaeeicoaa.V
/- The value layer, 36: maps whose keys are structs; a select of two receives; slices compared with nil. -/
namespace Go.Proofs.Ytdkgbkmaeeicoaa.V
open Go Go.Conc Go.RowKit Go.Proofs.Ytdkgbkmaeeicoaa.Comm Go.Proofs.YtdkgbkmaeeicoaaW.PrintWords
/-- What is found under a key. -/
def findE (eq : List D → Option Bool) : List (List D × List D) → Option (Option (List D))
  | [] => some none
  | e :: es => match eq e.1 with
    | some true => some (some e.2)
    | some false => findE eq es
    | none => none
def plainT : TypeDesc → Bool
  | .int _ => true
  | .bool => true
  | .string => true
  | _ => false
section
variable {P : Program} {n : Nat} {cx : Cx} {st : St} {o : Oper} {E : List PanicEntry → St → Prop}
theorem run_eqRow {t : TypeId} {ds : List TypeDesc} [q : EQ P t ds] {R : Addr → Value → Prop} {gv : Nat → Option Value} {x : Nat} {xs ys : List V} {ms ns : Array Value} {b : Bool} (hx : VRep R gv x (.agg xs) (.agg ms)) (hy : VRep R gv x (.agg ys) (.agg ns)) (he : eqRow ds xs ys = some b) (w : World) : (Op.equal t (.agg ms) (.agg ns)).run P w = .ok b w := by
  obtain ⟨fs, h1, h2, h3, h4⟩ := q.ex
  have hfo : P.fieldsOf t = fs := by unfold Program.fieldsOf; rw [h1]
  show (Op.equalIn (9999 + 1) t _ _).run P w = _
  rw [run_equalIn_struct w 9999 t ms ns (by rw [hfo]; exact h1) h3, hfo]
  cases hx with
  | agg _ _ e1 e2 =>
    cases hy with
    | agg _ _ e1' e2' =>
      refine run_eqFields (R := R) (gv := gv) (x := x) (d := 9998) (i := 0) h2 he (fun j c hj => ?_) (fun j c hj => ?_)
      · have hlt : j < ms.size := by rw [e1]; exact (List.getElem?_eq_some_iff.1 hj).1
        exact ⟨ms[j], by rw [Nat.zero_add]; exact Array.getElem?_eq_getElem hlt, e2 j c _ hj (Array.getElem?_eq_getElem hlt)⟩
      · have hlt : j < ns.size := by rw [e1']; exact (List.getElem?_eq_some_iff.1 hj).1
        exact ⟨ns[j], by rw [Nat.zero_add]; exact Array.getElem?_eq_getElem hlt, e2' j c _ hj (Array.getElem?_eq_getElem hlt)⟩
theorem run_checkPlain {em : Bool} {d : Nat} {t : TypeId} {td : TypeDesc} {v : Value} (hu : P.underlying t = some td) (hf : plainT td = true) (w : World) : (Instr.checkKey em (d + 1) t v).run P w = .ok () w := by
  unfold Instr.checkKey
  rw [Sem.run_bind, run_underlying hu]
  cases td <;> first | (cases hf; done) | rfl
theorem run_checkFields {em : Bool} {d : Nat} {ms : Array Value} (w : World) : ∀ {ds : List TypeDesc} {fs : List Field} {i : Nat}, flatOk P ds fs i = true → i + fs.length ≤ ms.size → (∀ m ∈ ms, m.oneCell' = true) →
    ((forIn fs PUnit.unit fun f (_ : PUnit) => (do if f.name ≠ "_" then Instr.checkKey em (d + 1) f.type (← part f.type ms f.offset)
                                                   pure (ForInStep.yield PUnit.unit) : Sem (ForInStep PUnit))).run P w = .ok PUnit.unit w) := by
  intro ds
  induction ds with
  | nil =>
    intro fs i h1 h2 h3
    cases fs with
    | cons f fs => simp [flatOk] at h1
    | nil => simp
  | cons t ds ih =>
    intro fs i h1 h2 h3
    cases fs with
    | nil => simp [flatOk] at h1
    | cons f fs =>
      simp only [flatOk, Bool.and_eq_true] at h1
      obtain ⟨⟨⟨ho, hn⟩, hk⟩, hr⟩ := h1
      have ho := Nat.eq_of_beq_eq_true ho
      have hn : f.name ≠ "_" := by simpa using hn
      simp only [List.length_cons] at h2
      cases hu : P.underlying f.type with
      | none => rw [hu] at hk; simp at hk
      | some td =>
        rw [hu] at hk
        have hf : plainT td = true := by
          revert hk
          cases td <;> first | (intro _; rfl) | (intro hk; cases t <;> cases hk)
        have hag : aggT td = false := by cases td <;> first | rfl | cases hf
        have hlt : i < ms.size := by omega
        have hp := run_part1 hu hag (cs := ms) (off := f.offset) (v := ms[i]) (by rw [ho]; exact Array.getElem?_eq_getElem hlt) w
        rw [List.forIn_cons]
        simp only [Sem.run_bind, Sem.run_ite, if_pos hn, hp, Result.andThen_ok, run_checkPlain hu hf, Sem.run_pure, ne_eq, hn, not_false_eq_true, if_true]
        exact ih hr (by omega) h3
theorem run_checkStruct {em : Bool} {d : Nat} {t : TypeId} {ds : List TypeDesc} [q : EQ P t ds] {ms : Array Value} (hs : ms.size = ds.length) (h1 : ∀ m ∈ ms, m.oneCell' = true) (w : World) : (Instr.checkKey em (d + 2) t (.agg ms)).run P w = .ok () w := by
  obtain ⟨fs, hu, hf, _⟩ := q.ex
  have hl : ∀ {ds : List TypeDesc} {fs : List Field} {i : Nat}, flatOk P ds fs i = true → fs.length = ds.length := by
    intro ds
    induction ds with
    | nil => intro fs i h; cases fs with
      | nil => rfl
      | cons f fs => simp [flatOk] at h
    | cons t ds ih => intro fs i h; cases fs with
      | nil => simp [flatOk] at h
      | cons f fs => simp only [flatOk, Bool.and_eq_true] at h; simp [ih h.2]
  have hk := run_checkFields (P := P) (em := em) (d := d) (ms := ms) w hf (by rw [hl hf, hs]; omega) h1
  unfold Instr.checkKey
  rw [Sem.run_bind, run_underlying hu]
  simp only [Result.andThen_ok]
  rw [← Array.forIn_toList, Sem.run_bind, hk]
  rfl
theorem run_findS {t : TypeId} {ds : List TypeDesc} [q : EQ P t ds] {R : Addr → Value → Prop} {gv : Nat → Option Value} {x : Nat} {ks : List V} {kms : Array Value} (hk : VRep R gv x (.agg ks) (.agg kms)) (h2 : 2 ≤ ds.length) : ∀ {es : List (List D × List D)} {ms : List MapEntry} {res : Option (List D)} (i : Nat), ms.length = es.length →
    (∀ (i : Nat) (e : List D × List D) (m : MapEntry), es[i]? = some e → ms[i]? = some m → cellRep R e.1 m.key ∧ cellRep R e.2 m.val) → (∀ e ∈ es, e.1.length = ds.length) → findE (fun r => eqRow ds ks (r.map D.toV)) es = some res →
    ∃ a, (∀ w : World, (Instr.findAsking t (.agg kms) ms i).run P w = .ok a w) ∧ match res with
      | none => a = none
      | some v => ∃ j m, a = some (j, m) ∧ cellRep R v m := by
  intro es
  induction es with
  | nil =>
    intro ms res i hl _ _ hf
    have : ms = [] := List.eq_nil_of_length_eq_zero hl
    subst this
    obtain rfl := Option.some.inj hf
    exact ⟨none, fun w => by simp [Instr.findAsking], rfl⟩
  | cons e es ih =>
    intro ms res i hl hr hlen hf
    match ms, hl with
    | m :: ms, hl =>
      obtain ⟨k1, k2⟩ := hr 0 e m rfl rfl
      have hel := hlen e (by simp)
      obtain ⟨d1, d2, dr, hd⟩ : ∃ d1 d2 dr, e.1 = d1 :: d2 :: dr := by
        match he : e.1, hel with
        | [], hel => simp at hel; omega
        | [d1], hel => simp at hel; omega
        | d1 :: d2 :: dr, _ => exact ⟨d1, d2, dr, rfl⟩
      have hkv : VRep R gv x (.agg (e.1.map D.toV)) m.key := by
        have := cellRep_V (gv := gv) (x := x) k1
        rw [hd] at this ⊢
        exact this
      obtain ⟨nms, hnm⟩ : ∃ nms, m.key = .agg nms := by
        generalize m.key = mk at hkv
        cases hkv with
        | agg _ nms _ _ => exact ⟨nms, rfl⟩
      rw [hnm] at hkv
      simp only [findE] at hf
      split at hf
      · rename_i he
        obtain rfl := Option.some.inj hf
        refine ⟨some (i, m.val), fun w => ?_, i, m.val, rfl, k2⟩
        unfold Instr.findAsking
        rw [Sem.run_bind, hnm, run_eqRow hk hkv he]
        rfl
      · rename_i he
        obtain ⟨a, ha, hres⟩ := ih (i + 1) (by simpa using hl) (fun j e m h1 h2 => hr (j + 1) e m h1 h2) (fun e he => hlen e (by simp [he])) hf
        refine ⟨a, fun w => ?_, hres⟩
        unfold Instr.findAsking
        rw [Sem.run_bind, hnm, run_eqRow hk hkv he]
        exact ha w
      · cases hf
end
end Go.Proofs.Ytdkgbkmaeeicoaa.V
/- The value layer, 37: maps in the walk; a select of two receives; slices compared with nil. -/
namespace Go.Proofs.Ytdkgbkmaeeicoaa.V
open Go Go.Conc Go.RowKit Go.Proofs.Ytdkgbkmaeeicoaa.Comm Go.Proofs.YtdkgbkmaeeicoaaW.PrintWords
def foundIs (R : Addr → Value → Prop) : Option (List D) → Option (Nat × Value) → Prop
  | none, v => v = none
  | some u, v => ∃ j m, v = some (j, m) ∧ cellRep R u m
def foundVal (z : Value) : Option (Nat × Value) → Value
  | some (_, v) => v
  | none => z
def foundV (z : Value) : Option (List D) → V
  | some u => cellV u
  | none => .val z
section
variable {P : Program} {n : Nat} {cx : Cx} {st : St} {o : Oper} {E : List PanicEntry → St → Prop}
theorem Rep.map {g : Nat → Value} {a : Act} {w : World} (r : Rep n cx g st a w) {id : Nat} {es : List (List D × List D)} (hh : lk st.h id = some (.map es)) :
    ∃ b ms cl, gvOf st.h g id = some (.map (some b)) ∧ w.heap[b]? = some (.map ms cl) ∧ ms.size = es.length ∧ (∀ (i : Nat) (e : List D × List D) (m : MapEntry), es[i]? = some e → ms[i]? = some m → cellRep (Rd cx.z st.h g w) e.1 m.key ∧ cellRep (Rd cx.z st.h g w) e.2 m.val) := by
  have hgv : gvOf st.h g id = some (g id) := by simp [gvOf, hh, O.live]
  obtain ⟨hlt, o', ho', hrep⟩ := r.h.obj _ _ hgv
  rw [hh] at ho'
  obtain rfl := Option.some.inj ho'
  generalize hx : g id = v at hrep hgv
  cases hrep with
  | map _ b ms cl e1 e2 e3 => exact ⟨b, ms, cl, hgv, e1, e2, e3⟩
theorem map_of {g : Nat → Value} {a : Act} {w : World} (r : Rep n cx g st a w) {c : Operand} {id b : Nat} (hc : ev st.s c = some (.ref id)) (hgv : gvOf st.h g id = some (.map (some b))) : a.eval c = .map (some b) := by
  have := ev_rep r hc
  generalize a.eval c = mm at this
  cases this with
  | ref _ _ _ _ h3 => exact h3 _ hgv
/-- What a lookup finds. -/
theorem map_find {g : Nat → Value} {a : Act} {w : World} (r : Rep n cx g st a w) {k : TypeId} {ds : List TypeDesc} [q : EQ P k ds] {y : Operand} {ks : List V} {es : List (List D × List D)} {ms : Array MapEntry} {res : Option (List D)} (hy : ev st.s y = some (.agg ks)) (h2 : 2 ≤ ds.length) (hkl : ks.length = ds.length) (hks : ks.all V.single = true)
    (hsz : ms.size = es.length) (hrep : ∀ (i : Nat) (e : List D × List D) (m : MapEntry), es[i]? = some e → ms[i]? = some m → cellRep (Rd cx.z st.h g w) e.1 m.key ∧ cellRep (Rd cx.z st.h g w) e.2 m.val) (hlen : ∀ e ∈ es, e.1.length = ds.length) (hf : findE (fun r => eqRow ds ks (r.map D.toV)) es = some res) (em : Bool) :
    (∀ w' : World, (Instr.checkKey em 10000 k (a.eval y)).run P w' = .ok () w') ∧ ∃ v, (∀ w' : World, (Instr.findKey k (a.eval y) ms.toList).run P w' = .ok v w') ∧ foundIs (Rd cx.z st.h g w) res v := by
  have hv := ev_rep r hy
  generalize a.eval y = kv at hv
  cases hv with
  | agg _ kms e1 e2 =>
    have hone : ∀ m ∈ kms, m.oneCell' = true := fun m hm => by
      obtain ⟨i, hi, rfl⟩ := Array.mem_iff_getElem.1 hm
      have hi' : i < ks.length := by rw [← e1]; exact hi
      exact (e2 i _ _ (List.getElem?_eq_getElem hi') (Array.getElem?_eq_getElem hi)).one (List.all_eq_true.1 hks _ (List.getElem_mem hi'))
    refine ⟨run_checkStruct (q := q) (d := 9998) (by rw [e1, hkl]) hone, ?_⟩
    obtain ⟨v, hv1, hv2⟩ := run_findS (q := q) (x := st.x) (gv := gvOf st.h g) (ks := ks) (kms := kms) (.agg ks kms e1 e2) h2 (ms := ms.toList) 0 (by simpa using hsz) (fun i e m h1 h2 => hrep i e m h1 (by rw [← Array.getElem?_toList]; exact h2)) hlen hf
    refine ⟨v, fun w' => ?_, by cases res <;> exact hv2⟩
    obtain ⟨fs, hu, _⟩ := q.ex
    unfold Instr.findKey
    rw [Sem.run_bind, run_underlying hu]
    simp only [Result.andThen_ok]
    cases hms : ms.toList with
    | nil =>
      rw [hms] at hv1
      have := hv1 w'
      simp only [Instr.findAsking] at this
      simp only [Instr.findNow]
      exact this
    | cons m ms' =>
      rw [hms] at hv1
      simp only [Instr.findNow, Instr.sameNow]
      exact hv1 w'
/-- v, ok := m[k]. -/
theorem VLoad.lookup {m : List Nat} {t k e : TypeId} {x y : Operand} {id : Nat} {es : List (List D × List D)} {ks : List V} {ds : List TypeDesc} {res : Option (List D)} {s b s' b' : Nat} {z z' : Value} {d' : TypeDesc} (ho : o.op = .lookup t x y true) (hx : ev st.s x = some (.ref id)) (hh : lk st.h id = some (.map es)) (hy : ev st.s y = some (.agg ks)) [ht : TI P t (.map k e) s b z] [q : EQ P k ds] [he : TI P e d' s' b' z'] (hz : z'.oneCell' = true)
    (h2 : 2 ≤ ds.length) (hkl : ks.length = ds.length) (hks : ks.all V.single = true) (hlen : ∀ e ∈ es, e.1.length = ds.length) (hf : findE (fun r => eqRow ds ks (r.map D.toV)) es = some res) (hm : id ∉ m) :
    VLoad P n cx m o st (.tup [foundV z' res, .val (.bool res.isSome)]) := fun g a w r => by
  obtain ⟨b, ms, cl, hgv, hb, hsz, hrep⟩ := r.map hh
  have e1 := map_of r hx hgv
  have hblt : b < w.heap.size := (Array.getElem?_eq_some_iff.1 hb).1
  obtain ⟨hck, v0, hv0, hres⟩ := map_find (q := q) r hy h2 hkl hks hsz hrep hlen hf ms.isEmpty
  have hrun : ∀ w' : World, w'.heap[b]? = some (.map ms cl) → (Instr.lookup t (.map (some b)) (a.eval y) true).run P w' = .ok (.tuple #[foundVal z' v0, .bool v0.isSome]) w' := by
    intro w' hb'
    unfold Instr.lookup
    simp only [Sem.run_bind, run_underlying ht.und, Result.andThen_ok, MapKept.run_getObj_map hb', hck, hv0, Sem.run_pure]
    cases v0 with
    | none => simp [he.run_zero, Result.andThen, foundVal]
    | some p => simp [Result.andThen, foundVal]
  refine ⟨.tuple #[foundVal z' v0, .bool v0.isSome], ?_, fun w' hw' => ?_⟩
  · refine .tup _ _ rfl (fun j c' mm hc' hm' => ?_)
    match j, hc', hm' with
    | 0, hc', hm' =>
      obtain rfl := Option.some.inj hc'
      obtain rfl := Option.some.inj hm'
      cases res with
      | none => obtain rfl : v0 = none := hres; exact .val _ hz
      | some u =>
        obtain ⟨j, mv, rfl, hcell⟩ := hres
        exact cellRep_V hcell
    | 1, hc', hm' =>
      obtain rfl := Option.some.inj hc'
      obtain rfl := Option.some.inj hm'
      cases res with
      | none => obtain rfl : v0 = none := hres; exact .val _ rfl
      | some u => obtain ⟨j, mv, rfl, hcell⟩ := hres; exact .val _ rfl
    | j + 2, hc', hm' => cases hc'
  · have hb' : w'.heap[b]? = some (.map ms cl) := (hw' b hblt (fun id' hid v hv hbk => by
      have := r.h.apart _ _ _ _ _ hv hgv hbk (.inl rfl)
      subst this; exact hm hid)).trans hb
    unfold execOp; rw [ho]; simp only [e1]
    rw [Sem.run_bind, hrun w' hb']; rfl
theorem cellDs_agg {ks : List V} (h : 2 ≤ ks.length) : cellDs (.agg ks) = toDs ks := by
  match ks, h with
  | [], h => simp at h
  | [_], h => simp at h
  | _ :: _ :: _, _ => rfl
/-- m[k] = v, where k is not there yet. -/
theorem VOp.mapPut {t k e : TypeId} {x y v : Operand} {id : Nat} {es : List (List D × List D)} {ks : List V} {u : V} {kd vd : List D} {ds : List TypeDesc} {s b : Nat} {z : Value} (ho : o.op = .mapUpdate t x y v) (hx : ev st.s x = some (.ref id)) (hh : lk st.h id = some (.map es)) (hy : ev st.s y = some (.agg ks)) (hv : ev st.s v = some u) [ht : TI P t (.map k e) s b z] [q : EQ P k ds]
    (h2 : 2 ≤ ds.length) (hkl : ks.length = ds.length) (hks : ks.all V.single = true) (hlen : ∀ e ∈ es, e.1.length = ds.length) (hf : findE (fun r => eqRow ds ks (r.map D.toV)) es = some none) (hkd : toDs ks = some kd) (hvd : cellDs u = some vd) :
    VOp P n cx [id] o (fun v' h' x' => v' = .junk ∧ h' = (id, .map (es ++ [(kd, vd)])) :: st.h ∧ x' = st.x) E st := fun g a w r Kc Q hk _ => by
  obtain ⟨b, ms, cl, hgv, hb, hsz, hrep⟩ := r.map hh
  have e1 := map_of r hx hgv
  obtain ⟨hck, v0, hv0, hres⟩ := map_find (q := q) r hy h2 hkl hks hsz hrep hlen hf false
  have hres : v0 = none := hres
  subst hres
  have hkr := ev_rep r hy
  have hvr := ev_rep r hv
  let o' : Obj := .map (ms.push { key := a.eval y, val := a.eval v, born := cl }) (cl + 1)
  have hrun : (Instr.mapUpdate t (.map (some b)) (a.eval y) (a.eval v)).run P w = .ok () { w with heap := w.heap.setIfInBounds b o' } := by
    unfold Instr.mapUpdate
    simp only [Sem.run_bind, run_underlying ht.und, Result.andThen_ok, MapKept.run_getObj_map hb, hck, hv0]
    exact MapKept.run_setObj_map _ hb
  have hw : ∀ k, k ≠ b → ({ w with heap := w.heap.setIfInBounds b o' } : World).heap[k]? = w.heap[k]? := fun k hne => (MapKept.heap_set (o' := o') hb).2 k hne
  have hnx := change_next (o' := .map (es ++ [(kd, vd)])) r.h hh rfl rfl hgv (.inl rfl) (w' := { w with heap := w.heap.setIfInBounds b o' }) (by simp) hw
  unfold Oper.wp execOp
  rw [ho]
  simp only [e1, Sem.run_bind, hrun, Result.andThen, Sem.run_pure, Oper.upon_skip]
  refine hk g .junk undef _ st.x _ ⟨rfl, rfl, rfl⟩ (r.h.change hh rfl rfl hgv (.inl rfl) (by simp) hw rfl rfl rfl ?_) (.junk _) hnx (change_touch r.h hh rfl rfl hgv (.inl rfl) hw)
  refine .map _ b _ (cl + 1) (MapKept.heap_set (o' := o') hb).1 (by simp [hsz]) (fun j c m hc hm => ?_)
  rw [List.getElem?_append] at hc
  rw [Array.getElem?_push, hsz] at hm
  split at hc
  · rename_i hj
    rw [if_neg (by omega)] at hm
    exact ⟨(hrep j c m hc hm).1.mono hnx.m.rd, (hrep j c m hc hm).2.mono hnx.m.rd⟩
  · rename_i hj
    have hj0 : j = es.length := by have := (List.getElem?_eq_some_iff.1 hc).1; simp at this; omega
    subst hj0
    rw [if_pos rfl] at hm
    obtain rfl := Option.some.inj hm
    simp at hc
    subst hc
    exact ⟨(cellDs_rep (by rw [cellDs_agg (by omega)]; exact hkd) hkr).mono hnx.m.rd, (cellDs_rep hvd hvr).mono hnx.m.rd⟩
/-- make(map[K]V). -/
theorem VOp.makeMap {t : TypeId} (ho : o.op = .makeMap t none) : VOp P n cx [] o (fun v' h' x' => v' = .ref st.x ∧ h' = (st.x, .map []) :: st.h ∧ x' = st.x + 1) E st := by
  refine VOp.of_new rfl (fun R gv u h1 h2 => ref_new h1 (by cases u <;> first | rfl | cases h2)) (fun g a w r => ?_)
  refine ⟨.map #[] 0, .map (some w.heap.size), ?_, rfl, .map [] w.heap.size #[] 0 (heap_alloc_new w _) rfl (fun i e m h1 h2 => by simp at h1)⟩
  unfold execOp; rw [ho]
  simp [Instr.makeMap, newObj, Sem.run]
end
end Go.Proofs.Ytdkgbkmaeeicoaa.V
/- The value layer, 38: a select of two receives; slices compared with nil; maps' movers. -/
namespace Go.Proofs.Ytdkgbkmaeeicoaa.V
open Go Go.Conc Go.RowKit Go.Proofs.Ytdkgbkmaeeicoaa.Comm Go.Proofs.YtdkgbkmaeeicoaaW.PrintWords
section
variable {P : Program} {n : Nat} {cx : Cx} {ops : Array Oper} {K : St → Prop} {E : List PanicEntry → St → Prop} {i : Nat} {o : Oper} {rest : List Oper} {s : List (Nat × V)} {h : Heap} {x dd dr : Nat} {m : List Nat}
theorem VOps.makeMap {t : TypeId} (ho : o.op = .makeMap t none) (hw : wantedV ops o s = some true) (hs : okM dr ops i m [] = true) (hd : o.dst = some dd)
    (h2 : VOps P n cx (nxt dr) m ops K E (i + 1) rest ⟨(dd, .ref x) :: s, (x, .map []) :: h, x + 1⟩) : VOps P n cx dr m ops K E i (o :: rest) ⟨s, h, x⟩ := VOps.oo hw hs hd (VOp.makeMap ho) h2
theorem VOps.mapPut {t k e : TypeId} {c y v : Operand} {id : Nat} {es es' : List (List D × List D)} {ks : List V} {u : V} {kd vd : List D} {ds : List TypeDesc} {sz b : Nat} {z : Value} (ho : o.op = .mapUpdate t c y v) (hw : wantedV ops o s = some true) (hs : okM dr ops i m [id] = true) (hd : o.dst = none) (hx : ev s c = some (.ref id)) (hh : lk h id = some (.map es)) (hy : ev s y = some (.agg ks)) (hv : ev s v = some u) [ht : TI P t (.map k e) sz b z] [q : EQ P k ds]
    (h2 : 2 ≤ ds.length) (hkl : ks.length = ds.length) (hks : ks.all V.single = true) (hlen : ∀ e ∈ es, e.1.length = ds.length) (hf : findE (fun r => eqRow ds ks (r.map D.toV)) es = some none) (hkd : toDs ks = some kd) (hvd : cellDs u = some vd) (hes : es ++ [(kd, vd)] = es')
    (H : VOps P n cx (nxt dr) m ops K E (i + 1) rest ⟨s, (id, .map es') :: h, x⟩) : VOps P n cx dr m ops K E i (o :: rest) ⟨s, h, x⟩ := VOps.oo0 hw hs hd (VOp.mapPut ho hx hh hy hv h2 hkl hks hlen hf hkd hvd) (by rw [hes]; exact H)
/-- What a receive leaves. -/
theorem recv_upd {g : Nat → Value} {a : Act} {w : World} (r : Rep n cx g ⟨s, h, x⟩ a w) {id cap : Nat} {d0 : List D} {buf : List (List D)} (hh : lk h id = some (.chan cap (d0 :: buf) false)) :
    ∃ b ms q1 q2, gvOf h g id = some (.chan (some b)) ∧ w.heap[b]? = some (.chan cap ms false q1 q2 false) ∧ 0 < ms.size ∧ ∃ w', w' = w.setChan b cap (ms.extract 1 ms.size) false q1 (q2 + 1) false ∧ HRep cx g ((id, .chan cap buf false) :: h) x w' ∧ Next h g x w ((id, .chan cap buf false) :: h) g x w' ∧ cellRep (Rd cx.z ((id, .chan cap buf false) :: h) g w') d0 (ms.getD 0 undef) := by
  obtain ⟨b', ms, q1, q2, hgv, hb, hsz, hrep⟩ := r.chan hh
  have hblt : b' < w.heap.size := (Array.getElem?_eq_some_iff.1 hb).1
  have hww : ∀ k, k ≠ b' → (w.setChan b' cap (ms.extract 1 ms.size) false q1 (q2 + 1) false).heap[k]? = w.heap[k]? := fun k hk => by simp [World.setChan, Array.getElem?_setIfInBounds_ne (Ne.symm hk)]
  have hsize : w.heap.size ≤ (w.setChan b' cap (ms.extract 1 ms.size) false q1 (q2 + 1) false).heap.size := by rw [size_setChan]; exact Nat.le_refl _
  have nx := change_next (o' := .chan cap buf false) r.h hh rfl rfl hgv (.inl rfl) hsize hww
  have hpos : 0 < ms.size := by rw [hsz]; simp
  have h0 : cellRep (Rd cx.z h g w) d0 (ms.getD 0 undef) := hrep 0 d0 _ rfl (by rw [Array.getD_eq_getD_getElem?, Array.getElem?_eq_getElem hpos]; rfl)
  refine ⟨b', ms, q1, q2, hgv, hb, hpos, _, rfl, ?_, nx, h0.mono nx.m.rd⟩
  refine r.h.change hh rfl rfl hgv (.inl rfl) hsize hww rfl rfl rfl ?_
  refine .chan cap _ false b' (ms.extract 1 ms.size) q1 (q2 + 1) (heap_setChan _ _ _ _ _ _ _ _ hblt) (by simp [hsz]) (fun j e' mm he hm => ?_)
  refine (hrep (j + 1) e' mm he ?_).mono nx.m.rd
  rw [Array.getElem?_extract] at hm
  split at hm
  · rw [Nat.add_comm]; exact hm
  · cases hm
theorem drew_rep {g : Nat → Value} {st : St} {a : Act} {w : World} (r : Rep n cx g st a w) : Rep n cx g st a w.drew := r.world rfl rfl rfl rfl
theorem tup4 {R : Addr → Value → Prop} {gv : Nat → Option Value} {y : Nat} {v0 v1 v2 v3 : V} {m0 m1 m2 m3 : Value} (h0 : VRep R gv y v0 m0) (h1 : VRep R gv y v1 m1) (h2 : VRep R gv y v2 m2) (h3 : VRep R gv y v3 m3) : VRep R gv y (.tup [v0, v1, v2, v3]) (.tuple #[m0, m1, m2, m3]) := by
  refine .tup _ _ rfl (fun j c' mm hc' hm => ?_)
  match j, hc', hm with
  | 0, hc', hm => obtain rfl := Option.some.inj hc'; obtain rfl := Option.some.inj hm; exact h0
  | 1, hc', hm => obtain rfl := Option.some.inj hc'; obtain rfl := Option.some.inj hm; exact h1
  | 2, hc', hm => obtain rfl := Option.some.inj hc'; obtain rfl := Option.some.inj hm; exact h2
  | 3, hc', hm => obtain rfl := Option.some.inj hc'; obtain rfl := Option.some.inj hm; exact h3
  | j + 4, hc', hm => cases hc'
/-- A select of two receives, with a default: nothing is there; the first; the second. -/
theorem VOps.sel2 {c1 c2 : Operand} {e1 e2 : TypeId} {id1 id2 cap1 cap2 d s1 b1 s2 b2 : Nat} {t1 t2 : TypeDesc} {z1 z2 : Value} {buf1 buf2 : List (List D)} (ho : o.op = .select #[{ chan := c1, send := none, elem := e1 }, { chan := c2, send := none, elem := e2 }] false) (hw : wantedV ops o s = some true) (hd : o.dst = some d) [ht1 : TI P e1 t1 s1 b1 z1] [ht2 : TI P e2 t2 s2 b2 z2] (hc1 : ev s c1 = some (.ref id1)) (hc2 : ev s c2 = some (.ref id2)) (hh1 : lk h id1 = some (.chan cap1 buf1 false)) (hh2 : lk h id2 = some (.chan cap2 buf2 false))
    (H0 : buf1 = [] → buf2 = [] → VOps P n cx 0 m ops K E (i + 1) rest ⟨(d, .tup [.val (.int .i64 (-1)), .val (.bool false), .junk, .junk]) :: s, h, x⟩)
    (H1 : ∀ d0 r, buf1 = d0 :: r → VOps P n cx 0 m ops K E (i + 1) rest ⟨(d, .tup [.val (.int .i64 0), .val (.bool true), cellV d0, .junk]) :: s, (id1, .chan cap1 r false) :: h, x⟩)
    (H2 : ∀ d0 r, buf2 = d0 :: r → VOps P n cx 0 m ops K E (i + 1) rest ⟨(d, .tup [.val (.int .i64 1), .val (.bool true), .junk, cellV d0]) :: s, (id2, .chan cap2 r false) :: h, x⟩) : VOps P n cx 0 m ops K E i (o :: rest) ⟨s, h, x⟩ := by
  let Ko : V → Heap → Nat → Prop := fun v h' x' => x' = x ∧ ((v = .tup [.val (.int .i64 (-1)), .val (.bool false), .junk, .junk] ∧ h' = h ∧ buf1 = [] ∧ buf2 = []) ∨
    (∃ d0 r, buf1 = d0 :: r ∧ v = .tup [.val (.int .i64 0), .val (.bool true), cellV d0, .junk] ∧ h' = (id1, .chan cap1 r false) :: h) ∨
    (∃ d0 r, buf2 = d0 :: r ∧ v = .tup [.val (.int .i64 1), .val (.bool true), .junk, cellV d0] ∧ h' = (id2, .chan cap2 r false) :: h))
  refine VOps.comm (Ko := Ko) hw (fun g a w r => ?_) (fun v h' x' hk => by
    rw [hd]
    rcases hk with ⟨rfl, ⟨rfl, rfl, q1, q2⟩ | ⟨d0, r, q1, rfl, rfl⟩ | ⟨d0, r, q1, rfl, rfl⟩⟩
    · exact H0 q1 q2
    · exact H1 d0 r q1
    · exact H2 d0 r q1)
  obtain ⟨b1', ms1, p1, q1, hgv1, hb1, hsz1, _⟩ := r.chan hh1
  obtain ⟨b2', ms2, p2, q2, hgv2, hb2, hsz2, _⟩ := r.chan hh2
  have ec1 := chan_of r hc1 hgv1
  have ec2 := chan_of r hc2 hgv2
  have hrun : (execOp a.eval o).run P w = .ok (.comm #[rcase b1' z1, rcase b2' z2] false .select) w := by
    unfold execOp; rw [ho]; simp [ec1, ec2, rcase, ht1.run_zero, ht2.run_zero]
  have first : ∀ (w0 : World) (r0 : Rep n cx g ⟨s, h, x⟩ a w0), w0.heap = w.heap → ∀ d0 r, buf1 = d0 :: r → ∃ mv w', mv = .tuple #[goInt 0, .bool true, ms1.getD 0 undef, z2] ∧ w' = w0.setChan b1' cap1 (ms1.extract 1 ms1.size) false p1 (q1 + 1) false ∧ HRep cx g ((id1, .chan cap1 r false) :: h) x w' ∧ VRep (Rd cx.z ((id1, .chan cap1 r false) :: h) g w') (gvOf ((id1, .chan cap1 r false) :: h) g) x (.tup [.val (.int .i64 0), .val (.bool true), cellV d0, .junk]) mv ∧ Next h g x w0 ((id1, .chan cap1 r false) :: h) g x w' := by
    intro w0 r0 hw0 d0 rr hb
    subst hb
    obtain ⟨b, ms, p, q, k1, k2, k3, w', rfl, k4, k5, k6⟩ := recv_upd r0 hh1
    rw [hgv1] at k1; cases k1
    rw [hw0, hb1] at k2; cases k2
    exact ⟨_, _, rfl, rfl, k4, tup4 (.val _ rfl) (.val _ rfl) (cellRep_V k6) (.junk _), k5⟩
  have second : ∀ (w0 : World) (r0 : Rep n cx g ⟨s, h, x⟩ a w0), w0.heap = w.heap → ∀ d0 r, buf2 = d0 :: r → ∃ mv w', mv = .tuple #[goInt 1, .bool true, z1, ms2.getD 0 undef] ∧ w' = w0.setChan b2' cap2 (ms2.extract 1 ms2.size) false p2 (q2 + 1) false ∧ HRep cx g ((id2, .chan cap2 r false) :: h) x w' ∧ VRep (Rd cx.z ((id2, .chan cap2 r false) :: h) g w') (gvOf ((id2, .chan cap2 r false) :: h) g) x (.tup [.val (.int .i64 1), .val (.bool true), .junk, cellV d0]) mv ∧ Next h g x w0 ((id2, .chan cap2 r false) :: h) g x w' := by
    intro w0 r0 hw0 d0 rr hb
    subst hb
    obtain ⟨b, ms, p, q, k1, k2, k3, w', rfl, k4, k5, k6⟩ := recv_upd r0 hh2
    rw [hgv2] at k1; cases k1
    rw [hw0, hb2] at k2; cases k2
    exact ⟨_, _, rfl, rfl, k4, tup4 (.val _ rfl) (.val _ rfl) (.junk _) (cellRep_V k6), k5⟩
  have nxd : ∀ {h' : Heap} {w' : World}, Next h g x w.drew h' g x w' → Next h g x w h' g x w' := fun nx => ⟨⟨nx.m.size, nx.m.own, nx.m.keep⟩, nx.g, nx.x⟩
  cases hb1' : buf1 with
  | nil =>
    obtain rfl : ms1 = #[] := Array.eq_empty_of_size_eq_zero (by rw [hsz1, hb1']; rfl)
    cases hb2' : buf2 with
    | nil =>
      obtain rfl : ms2 = #[] := Array.eq_empty_of_size_eq_zero (by rw [hsz2, hb2']; rfl)
      exact ⟨_, false, .select, w, .tuple #[goInt (-1), .bool false, z1, z2], w, g, _, _, _, hrun, fun fr cs es hs => sel2_none hs hb1 hb2, ⟨rfl, .inl ⟨rfl, rfl, hb1', hb2'⟩⟩, r.h, tup4 (.val _ rfl) (.val _ rfl) (.junk _) (.junk _), Next.refl _ _ _ _⟩
    | cons d0 rr =>
      have hpos : 0 < ms2.size := by rw [hsz2, hb2']; simp
      obtain ⟨mv, w', rfl, rfl, k1, k2, k3⟩ := second w r rfl d0 rr hb2'
      exact ⟨_, false, .select, w, _, _, g, _, _, _, hrun, fun fr cs es hs => sel2_snd hs hb1 hb2 hpos, ⟨rfl, .inr (.inr ⟨d0, rr, hb2', rfl, rfl⟩)⟩, k1, k2, k3⟩
  | cons d0 rr =>
    have hpos : 0 < ms1.size := by rw [hsz1, hb1']; simp
    cases hb2' : buf2 with
    | nil =>
      obtain rfl : ms2 = #[] := Array.eq_empty_of_size_eq_zero (by rw [hsz2, hb2']; rfl)
      obtain ⟨mv, w', rfl, rfl, k1, k2, k3⟩ := first w r rfl d0 rr hb1'
      exact ⟨_, false, .select, w, _, _, g, _, _, _, hrun, fun fr cs es hs => sel2_fst hs hb1 hb2 hpos, ⟨rfl, .inr (.inl ⟨d0, rr, hb1', rfl, rfl⟩)⟩, k1, k2, k3⟩
    | cons d1 rr1 =>
      have hpos2 : 0 < ms2.size := by rw [hsz2, hb2']; simp
      by_cases ht : askedSel w = 0
      · obtain ⟨mv, w', rfl, rfl, k1, k2, k3⟩ := first w.drew (drew_rep r) rfl d0 rr hb1'
        exact ⟨_, false, .select, w, _, _, g, _, _, _, hrun, fun fr cs es hs => sel2_both0 hs hb1 hb2 hpos hpos2 ht, ⟨rfl, .inr (.inl ⟨d0, rr, hb1', rfl, rfl⟩)⟩, k1, k2, nxd k3⟩
      · have ht : askedSel w = 1 := by unfold askedSel at ht ⊢; omega
        obtain ⟨mv, w', rfl, rfl, k1, k2, k3⟩ := second w.drew (drew_rep r) rfl d1 rr1 hb2'
        exact ⟨_, false, .select, w, _, _, g, _, _, _, hrun, fun fr cs es hs => sel2_both1 hs hb1 hb2 hpos hpos2 ht, ⟨rfl, .inr (.inr ⟨d1, rr1, hb2', rfl, rfl⟩)⟩, k1, k2, nxd k3⟩
end
end Go.Proofs.Ytdkgbkmaeeicoaa.V
/- The value layer, 39: slices compared with nil; an array under a new name; slots that are forgotten. -/
namespace Go.Proofs.Ytdkgbkmaeeicoaa.V
open Go Go.Conc Go.RowKit Go.Proofs.Ytdkgbkmaeeicoaa.Comm Go.Proofs.YtdkgbkmaeeicoaaW.PrintWords
section
variable {P : Program} {n : Nat} {cx : Cx} {Q : VExit → St → Prop} {s : List (Nat × V)} {h : Heap} {x : Nat} {c : Code}
/-- An array under a new name. -/
theorem VCode.againA {id sz : Nat} {t : TypeId} {xs : List (List D)} (hl : lk h id = some (.arr t sz xs))
    (H : VCode P n cx c Q ⟨renS (ρt id x) s, tradeH [(x, .arr t sz xs)] [id] (ρt id x) h, x + 1⟩) : VCode P n cx c Q ⟨s, h, x⟩ := fun g a w r => by
  obtain ⟨v, ms, hgv, e1, e2, e3, e4, e5⟩ := r.arr hl
  refine H _ a w (r.trade1 (by simp) hgv rfl (.inl rfl) (fun b hb => ⟨id, by simp, _, hgv, hb⟩) (fun R' _ hrd => ?_))
  exact .arr t sz xs v ms e1 e2 e3 e4 (fun i j c hc => let ⟨m, h1, h2⟩ := e5 i j c hc; ⟨m, h1, h2.mono hrd⟩)
end
section
variable {P : Program} {n : Nat} {cx : Cx} {ops : Array Oper} {K : St → Prop} {E : List PanicEntry → St → Prop} {i : Nat} {o : Oper} {rest : List Oper} {s : List (Nat × V)} {h : Heap} {x dd dr : Nat} {m : List Nat}
theorem equal_slice_nil {t e : TypeId} (hu : P.underlying t = some (.slice e)) (A : Option Addr) (l c : Nat) (w : World) : (Op.equal t (.slice A l c) (.slice none 0 0)).run P w = .ok A.isNone w := by
  show (Op.equalIn (9999 + 1) t _ _).run P w = _
  rw [Op.equalIn, Sem.run_bind, run_underlying hu]
  cases A <;> rfl
theorem VOp.nilq {st : St} {t t' e : TypeId} {y z : Operand} {v : V} {sz : Nat} {xs : List (List D)} (ho : o.op = .binOp .eql t y z t') (hu : P.underlying t = some (.slice e)) (hx : ev st.s y = some v) (hsrc : Src st.h v sz xs) (hz : ev st.s z = some (.val (.slice none 0 0))) :
    VOp P n cx [] o (fun v' h' x' => (∃ b : Bool, v' = .val (.bool b) ∧ (b = true → xs = [])) ∧ h' = st.h ∧ x' = st.x) E st := fun g a w r Kc Q hk _ => by
  have h2 := (ev_rep r hz).val_inv
  obtain ⟨_, hs⟩ := hsrc.rep r (ev_rep r hx)
  obtain ⟨A, l, c, hv, hA⟩ : ∃ A l c, a.eval y = .slice A l c ∧ (A.isNone = true → xs = []) := by
    rcases hs with ⟨h1, h2⟩ | ⟨A, c, h1, h2⟩ | ⟨ad, c, ns, h1, _⟩
    · exact ⟨none, 0, 0, h1, fun _ => h2⟩
    · exact ⟨A, 0, c, h1, fun _ => h2⟩
    · exact ⟨some ad, _, c, h1, fun h => by cases h⟩
  have hrun : (execOp a.eval o).run P w = .ok (.value (.bool A.isNone)) w := by
    unfold execOp; rw [ho]; simp only [hv, h2]
    show ((Op.equal t _ _ >>= _) >>= _).run P w = _
    rw [Sem.run_bind, Sem.run_bind, equal_slice_nil hu]; rfl
  unfold Oper.wp
  rw [hrun, Oper.upon_value]
  exact hk g _ _ _ _ w ⟨⟨A.isNone, rfl, hA⟩, rfl, rfl⟩ r.h (.val _ rfl) (Next.refl _ _ _ _) ⟨fun _ _ _ => rfl, fun id u k hx h1 _ => absurd (r.h.obj _ _ h1).1 (by omega)⟩
/-- Is a slice nil? One that is has nothing in it. -/
theorem VOps.nilq {t t' e : TypeId} {y z : Operand} {v : V} {sz : Nat} {xs : List (List D)} (ho : o.op = .binOp .eql t y z t') (hw : wantedV ops o s = some true) (hs : okM dr ops i m [] = true) (hd : o.dst = some dd) (hu : P.underlying t = some (.slice e)) (hx : ev s y = some v) (hsrc : Src h v sz xs) (hz : ev s z = some (.val (.slice none 0 0)))
    (H : ∀ b : Bool, (b = true → xs = []) → VOps P n cx (nxt dr) m ops K E (i + 1) rest ⟨(dd, .val (.bool b)) :: s, h, x⟩) : VOps P n cx dr m ops K E i (o :: rest) ⟨s, h, x⟩ :=
  VOps.op hw hs (VOp.nilq ho hu hx hsrc hz) (by rintro _ _ _ ⟨⟨b, rfl, hb⟩, rfl, rfl⟩; rw [hd]; exact H b hb)
end
/-! ### movers in regions that draw -/
section
variable {P : Program} {n : Nat} {cx : Cx} {ops : Array Oper} {K : St → Prop} {E : List PanicEntry → St → Prop} {i : Nat} {o : Oper} {dl pl pend q : List (Nat × Oper)} {m : List Nat} {s : List (Nat × V)} {h : Heap} {x dd : Nat}
theorem VOp.of_load {st : St} {v : V} (h : VLoad P n cx [] o st v) : VOp P n cx [] o (fun v' h' x' => v' = v ∧ h' = st.h ∧ x' = st.x) E st := fun g a w r Kc Q hk _ => by
  obtain ⟨mv, h1, h2⟩ := h g a w r
  unfold Oper.wp
  rw [h2 w (fun _ _ _ => rfl), Oper.upon_value]
  exact hk g _ _ _ _ w ⟨rfl, rfl, rfl⟩ r.h h1 (Next.refl _ _ _ _) ⟨fun _ _ _ => rfl, fun id u k hx h1 _ => absurd (r.h.obj _ _ h1).1 (by omega)⟩
/-- A load that comes at its place alone. -/
theorem VMv.load {v : V} (he : cutAt i pend = some (o, dl, pl, q)) (hw : wantedV ops o s = some true) (hd : o.dst = some dd) (h1 : VLoad P n cx [] o ⟨s, h, x⟩ v) (h2 : VAny P n cx false m ops K E [] q ⟨(dd, v) :: s, h, x⟩) : VMv P n cx m ops K E pend i ⟨s, h, x⟩ :=
  VMv.oo he hw rfl hd (VOp.of_load h1) h2
theorem VMv.store_nest {t e' : TypeId} {p y : Operand} {id id' pos k j sz : Nat} {rows : List (List N)} {hole : Option (Nat × Nat × Nat)} {d : TypeDesc} {b : Nat} {z : Value} (he : cutAt i pend = some (o, dl, pl, q)) (ho : o.op = .store t p y) (hw : wantedV ops o s = some true) (hm : ([id].all fun k => m.contains k) = true) (hd : o.dst = none) (hp : ev s p = some (.ael id pos)) (hx : ev s y = some (.ref id')) (hh : lk h id = some (.nest e' sz rows hole)) (hpos : pos = k * sz + j) (hij : k < rows.length ∧ j < sz)
    (hfree : (∃ q, hole = some (k, j, q)) ∨ (hole = none ∧ ∃ c, (rows[k]?).bind (·[j]?) = some (.dat c))) [ht : TI P t d 1 b z]
    (h2 : VAny P n cx false m ops K E [] q ⟨s, (id, .nest e' sz rows (some (k, j, id'))) :: h, x⟩) : VMv P n cx m ops K E pend i ⟨s, h, x⟩ := VMv.oo0 he hw hm hd (VOp.store_nest ho hp hx hh hpos hij hfree) h2
theorem VMv.callL {y : Operand} {xs : Array Operand} {ts : Array TypeId} {f : FuncId} {fn : Func} {vs caps cargs : List V} {r r' : V} {ch h1 hh : Heap} {x1 xx : Nat} (l : List Nat) (he : cutAt i pend = some (o, dl, pl, q)) (ho : o.op = .call { callee := .value y, args := xs, argTypes := ts }) (hf : P.funcs[f]? = some fn) (hw : wantedV ops o s = some true) (hm : (l.all fun k => m.contains k) = true)
    (hb : fn.body.isSome = true) (hnm : (fn.name == "runtime.NumGoroutine") = false) (hx : ev s y = some (.fn f caps)) (hv : evs s xs.toList = some vs) (hch : SubH (nm l) l.length ch h) (hnd : l.Nodup) (hlt : (l.all fun i => Nat.blt i x) = true) (ha : vs ++ caps = V.renL (nm l) cargs) (hl : V.ltL l.length cargs = true)
    (hc : VCalls P f cargs ch l.length (Leaves r h1 x1)) (hr : r.ren (rn l x) = r') (hout : tidy (outH l x h1 h) = some hh) (hxx : x + (x1 - l.length) = xx)
    (h2 : VAny P n cx false m ops K E [] q ⟨putS o.dst r' s, hh, xx⟩) : VMv P n cx m ops K E pend i ⟨s, h, x⟩ := by
  rw [tidy_is] at hout
  obtain rfl := Option.some.inj hout
  refine VMv.mk (m' := l) he hm hw (VOp.call ho hf hb hnm hx hv ⟨hch, hnd, fun i hi => ?_⟩ ha hl hc (fun c h' x' hq => by cases hq.1)) ?_
  · have := List.all_eq_true.1 hlt i hi
    simpa [Nat.blt_eq] using this
  · rintro v h' x' ⟨out, ch', cx', ⟨e, rfl, rfl⟩, rfl, rfl, rfl⟩
    obtain rfl : out = r := by cases e; rfl
    rw [hr, hxx]; exact h2
end
end Go.Proofs.Ytdkgbkmaeeicoaa.V
