/- What D needs of this session's own texts, part 8: put together by wip/dce.py. -/
import Derived.Test.YtfjfbapiheehaaaK7D
import Derived.ChangeKeysEq
import Derived.Defers
import Derived.Laws.MakeOwn
import Derived.Maps.Range
section
set_option linter.unusedVariables false
set_option linter.unusedSimpArgs false
namespace Go.Proofs.Ytfjfbapiheehaaa.V
open Go Go.RowKit Go.Proofs.YtfjfbapiheehaaaW.PrintWords
def Like (u v : Value) : Prop := u = v ∨ (hdV u = hdV v ∧ ∃ A n c, hdV v = .slice A n c)
theorem Like.hd {u v : Value} (h : Like u v) : hdV u = hdV v := by
 rcases h with rfl | h
 ·rfl
 ·exact h.1
theorem VRep.swap {R R' : Addr → Value → Prop} {gv gv' : Nat → Option Value} {x x' : Nat} {ρ : Nat → Nat} (hR : ∀ a v, R a v → R' a v) (hg : ∀ id v, id < x → gv' (ρ id) = some v → ∃ u, gv id = some u ∧ Like u v) (hx : ∀ id, id < x → ρ id < x') {v : V} {m : Value} (h : VRep R gv x v m) : VRep R' gv' x' (v.ren ρ) m := by
 induction h with
 | val v h => exact .val v h
 | sl sz xs m h => exact .sl sz xs m (h.mono hR)
 | agg cs ms h1 h2 ih =>
  refine .agg _ ms (by rw [renL_length]; exact h1) (fun i c m hc hm => ?_)
  rw [renL_get] at hc
  obtain ⟨c', h3, rfl⟩ := Option.map_eq_some_iff.1 hc
  exact ih i c' m h3 hm
 | tup cs ms h1 h2 ih =>
  refine .tup _ ms (by rw [renL_length]; exact h1) (fun i c m hc hm => ?_)
  rw [renL_get] at hc
  obtain ⟨c', h3, rfl⟩ := Option.map_eq_some_iff.1 hc
  exact ih i c' m h3 hm
 | fn f cs ms h1 h2 ih =>
  refine .fn _ _ ms (by rw [renL_length]; exact h1) (fun i c m hc hm => ?_)
  rw [renL_get] at hc
  obtain ⟨c', h3, rfl⟩ := Option.map_eq_some_iff.1 hc
  exact ih i c' m h3 hm
 | ptr id off m h1 h0 h2 =>
  refine .ptr _ _ _ (hx _ h1) h0 (fun b hb => ?_)
  obtain ⟨u, hu, hl⟩ := hg _ _ h1 hb
  rcases hl with rfl | ⟨_, A, n, c, h⟩
  ·exact h2 b hu
  ·cases h
 | ael id pos m h1 h0 h2 =>
  refine .ael _ _ _ (hx _ h1) h0 (fun v ad n c hv hd => ?_)
  obtain ⟨u, hu, hl⟩ := hg _ _ h1 hv
  exact h2 u ad n c hu (hl.hd.trans hd)
 | el cs ad h => exact .el cs ad (fun j d hj => let ⟨m, hm, hd⟩ := h j d hj; ⟨m, hR _ _ hm, hd.mono hR⟩)
 | ref id m h1 h0 h2 =>
  refine .ref _ _ (hx _ h1) h0 (fun v hv => ?_)
  obtain ⟨u, hu, hl⟩ := hg _ _ h1 hv
  exact (h2 u hu).trans hl.hd
 | junk m => exact .junk m
theorem ORep.swap {R R' : Addr → Value → Prop} {gv gv' : Nat → Option Value} {x x' : Nat} {ρ : Nat → Nat} (hR : ∀ a v, R a v → R' a v) (hg : ∀ id v, id < x → gv' (ρ id) = some v → ∃ u, gv id = some u ∧ Like u v) (hx : ∀ id, id < x → ρ id < x') {w : World} {o : O} {v : Value} (h : ORep R gv x w o v) : ORep R' gv' x' w (o.ren ρ) v := by
 cases h with
 | cells t cs b ms e1 e2 e3 e4 =>
  refine .cells t _ b ms e1 (by rw [renL_length]; exact e2) e3 (fun i c m hc hm => ?_)
  rw [renL_get] at hc
  obtain ⟨c', h3, rfl⟩ := Option.map_eq_some_iff.1 hc
  exact (e4 i c' m h3 hm).swap hR hg hx
 | arr t sz xs v ms e1 e2 e3 e4 e5 => exact .arr t sz xs v ms e1 e2 e3 e4 (fun i j d h => let ⟨m, hm, hd⟩ := e5 i j d h; ⟨m, hm, hd.mono hR⟩)
 | nest t sz rows hole v ms us e1 e2 e3 e4 e5 e6 e7 => exact ORep.nest_map ρ (.nest t sz rows hole v ms us e1 e2 e3 e4 e5 e6 e7) hR (fun _ _ h => h.swap hR hg hx) (fun _ _ => rfl)
 | map es r ms cl e1 e2 e3 e4 => exact .map es r ms cl e1 e2 (fun i e m h1 h2 => ⟨(e3 i e m h1 h2).1.mono hR, (e3 i e m h1 h2).2.mono hR⟩) e4
 | chan cap buf cl r ms s q e1 e2 e3 => exact .chan cap buf cl r ms s q e1 e2 (fun i e m h1 h2 => (e3 i e m h1 h2).mono hR)
 | iter mp n' sn' r b sn e1 e2 e3 => exact .iter (ρ mp) n' sn' r b sn e1 e2 (e3.swap hR hg hx)
def ρt (id y i : Nat) : Nat := match Nat.beq i id with
 | true => y
 | false => i
theorem ρt_eq (id y : Nat) : ρt id y id = y := by unfold ρt; rw [Nat.beq_refl]
theorem ρt_ne {id y i : Nat} (h : i ≠ id) : ρt id y i = i := by
 unfold ρt
 cases hb : Nat.beq i id with
 | true => exact absurd (Nat.eq_of_beq_eq_true hb) h
 | false => rfl
def renS (ρ : Nat → Nat) : List (Nat × V) → List (Nat × V)
 | [] => []
 | (d, v) :: s => (d, v.ren ρ) :: renS ρ s
def renO (ρ : Nat → Nat) : Heap → Heap
 | [] => []
 | (d, o) :: h => (d, o.ren ρ) :: renO ρ h
theorem lk_renS (ρ : Nat → Nat) (s : List (Nat × V)) (d : Nat) : lk (renS ρ s) d = (lk s d).map (V.ren ρ) := by
 induction s with
 | nil => rfl
 | cons p s ih =>
  obtain ⟨e, v⟩ := p
  simp only [renS, lk_cons]
  split
  ·rfl
  ·exact ih
theorem lk_renO (ρ : Nat → Nat) (h : Heap) (d : Nat) : lk (renO ρ h) d = (lk h d).map (O.ren ρ) := by
 induction h with
 | nil => rfl
 | cons p h ih =>
  obtain ⟨e, o⟩ := p
  simp only [renO, lk_cons]
  split
  ·rfl
  ·exact ih
def tradeH (N : Heap) (L : List Nat) (ρ : Nat → Nat) (h : Heap) : Heap := N ++ (deadH L ++ renO ρ h)
section
variable {n : Nat} {cx : Cx} {s : List (Nat × V)} {h : Heap} {x : Nat} {g g' : Nat → Value} {a : Act} {w : World} {N : Heap} {L : List Nat} {ρ : Nat → Nat} {x' : Nat}
theorem trade_gv (hh : HRep cx g h x w) (hN : ∀ i o, lk N i = some o → x ≤ i) (hg : ∀ i, i < x → g' i = g i) {i : Nat} {v : Value} (hv : gvOf (tradeH N L ρ h) g' i = some v) :
  (gvOf N g' i = some v ∧ x ≤ i ∧ lk (tradeH N L ρ h) i = lk N i) ∨ (i ∉ L ∧ i < x ∧ gvOf h g i = some v ∧ lk (tradeH N L ρ h) i = (lk h i).map (O.ren ρ)) := by
 unfold tradeH at hv ⊢
 cases hn : lk N i with
 | some o =>
  refine .inl ⟨?_, hN i o hn, by rw [lk_append, hn]⟩
  unfold gvOf at hv ⊢
  rw [lk_append, hn] at hv
  rw [hn]; exact hv
 | none =>
  by_cases hL : i ∈ L
  ·exfalso
   unfold gvOf at hv
   rw [lk_append, hn] at hv
   simp only [lk_append, lk_dead_mem hL, O.live] at hv
   cases hv
  ·have e : lk (N ++ (deadH L ++ renO ρ h)) i = (lk h i).map (O.ren ρ) := by rw [lk_append, hn]; simp only [lk_append, lk_dead_not hL, lk_renO]
   unfold gvOf at hv
   rw [e] at hv
   cases ho : lk h i with
   | none => rw [ho] at hv; cases hv
   | some o =>
    rw [ho] at hv
    simp only [Option.map_some, O.ren_live] at hv
    have hi : i < x := by
     cases hl : o.live with
     | false => rw [hl] at hv; cases hv
     | true => exact (hh.obj i (g i) (by unfold gvOf; rw [ho]; simp [hl])).1
    refine .inr ⟨hL, hi, ?_, by rw [e, ho]⟩
    unfold gvOf
    rw [ho, ← hg i hi]; exact hv
theorem Rep.trade (r : Rep n cx g ⟨s, h, x⟩ a w) (hN : ∀ i o, lk N i = some o → x ≤ i) (hg : ∀ i, i < x → g' i = g i) (hx : x ≤ x')
  (hb : ∀ i v, gvOf N g' i = some v → i < x' ∧ ∀ b, Blk v b → ∃ j ∈ L, ∃ u, gvOf h g j = some u ∧ Blk u b)
  (hap : ∀ i i' v v' b, gvOf N g' i = some v → gvOf N g' i' = some v' → Blk v b → Blk v' b → i = i')
  (hρ : ∀ i, i < x → ρ i < x') (hlk : ∀ i v, i < x → gvOf (tradeH N L ρ h) g' (ρ i) = some v → ∃ u, gvOf h g i = some u ∧ Like u v)
  (hO : ∀ (R' : Addr → Value → Prop), R' = Rd cx.z (tradeH N L ρ h) g' w → (∀ ad v, Rd cx.z h g w ad v → R' ad v) →
   (∀ {v : V} {m : Value}, VRep (Rd cx.z h g w) (gvOf h g) x v m → VRep R' (gvOf (tradeH N L ρ h) g') x' (v.ren ρ) m) → ∀ i v, gvOf N g' i = some v → ∃ o, lk N i = some o ∧ ORep R' (gvOf (tradeH N L ρ h) g') x' w o v) :
  Rep n cx g' ⟨renS ρ s, tradeH N L ρ h, x'⟩ a w := by
 have hh := r.h
 have key := fun {i : Nat} {v : Value} (hv : gvOf (tradeH N L ρ h) g' i = some v) => trade_gv (L := L) (ρ := ρ) hh hN hg hv
 have hown : ∀ k, Own (tradeH N L ρ h) g' k → Own h g k := by
  rintro k ⟨i, v, h1, h2⟩
  rcases key h1 with ⟨h3, _⟩ | ⟨_, _, h3, _⟩
  ·obtain ⟨j, _, u, h4, h5⟩ := (hb i v h3).2 k h2
   exact ⟨j, u, h4, h5⟩
  ·exact ⟨i, v, h3, h2⟩
 have hrd : ∀ ad v, Rd cx.z h g w ad v → Rd cx.z (tradeH N L ρ h) g' w ad v := fun ad v q => ⟨q.z, fun ho => q.own (hown _ ho), q.cell⟩
 have hv : ∀ {v : V} {m : Value}, VRep (Rd cx.z h g w) (gvOf h g) x v m → VRep (Rd cx.z (tradeH N L ρ h) g' w) (gvOf (tradeH N L ρ h) g') x' (v.ren ρ) m := fun q => q.swap hrd hlk hρ
 have hO' := hO _ rfl hrd hv
 refine ⟨⟨hh.os, hh.tape, hh.output, hh.size, hh.old, ?_, ?_, ?_, ?_, Nat.le_trans hh.low hx, hh.apz⟩, r.size, r.defers, ?_⟩
 ·intro i v h1
  rcases key h1 with ⟨h3, h4, h5⟩ | ⟨h3, h4, h5, h6⟩
  ·obtain ⟨o, h6, h7⟩ := hO' i v h3
   exact ⟨(hb i v h3).1, o, h5.trans h6, h7⟩
  ·obtain ⟨_, o, h7, h8⟩ := hh.obj i v h5
   exact ⟨Nat.lt_of_lt_of_le h4 hx, o.ren ρ, by rw [h6, h7]; rfl, h8.swap hrd hlk hρ⟩
 ·intro i i' v v' k h1 h2 h3 h4
  rcases key h1 with ⟨e1, _⟩ | ⟨e1, _, e2, _⟩ <;> rcases key h2 with ⟨f1, _⟩ | ⟨f1, _, f2, _⟩
  ·exact hap _ _ _ _ _ e1 f1 h3 h4
  ·obtain ⟨j, hj, u, q1, q2⟩ := (hb _ _ e1).2 k h3
   have := hh.apart _ _ _ _ _ f2 q1 h4 q2
   subst this; exact absurd hj f1
  ·obtain ⟨j, hj, u, q1, q2⟩ := (hb _ _ f1).2 k h4
   have := hh.apart _ _ _ _ _ e2 q1 h3 q2
   subst this; exact absurd hj e1
  ·exact hh.apart _ _ _ _ _ e2 f2 h3 h4
 ·intro i v k h1 h2
  rcases key h1 with ⟨e1, _⟩ | ⟨_, _, e2, _⟩
  ·obtain ⟨j, _, u, q1, q2⟩ := (hb _ _ e1).2 k h2
   exact hh.mine _ _ _ q1 q2
  ·exact hh.mine _ _ _ e2 h2
 ·intro i v hi h1
  rcases key h1 with ⟨_, e2, _⟩ | ⟨_, _, e2, _⟩
  ·have := hh.low
   exact absurd (Nat.lt_of_lt_of_le hi this) (by simp only; omega)
  ·exact hh.first _ _ hi e2
 ·intro d v h1
  have h1 : lk (renS ρ s) d = some v := h1
  rw [lk_renS] at h1
  obtain ⟨v', h2, rfl⟩ := Option.map_eq_some_iff.1 h1
  exact hv (r.s d v' h2)
end
end Go.Proofs.Ytfjfbapiheehaaa.V
namespace Go.Proofs.Ytfjfbapiheehaaa.V
open Go Go.RowKit Go.Proofs.YtfjfbapiheehaaaW.PrintWords
section
variable {P : Program} {n : Nat} {cx : Cx} {Q : VExit → St → Prop} {s : List (Nat × V)} {h : Heap} {x : Nat} {g : Nat → Value} {a : Act} {w : World}
def putN (rows : List (List N)) (i j : Nat) (c : N) : List (List N) := rows.modify i (·.set j c)
theorem putN_length (rows : List (List N)) (i j : Nat) (c : N) : (putN rows i j c).length = rows.length := by simp [putN]
theorem putN_row {rows : List (List N)} {i j : Nat} {c : N} {sz : Nat} (hr : ∀ row ∈ rows, row.length = sz) : ∀ row ∈ putN rows i j c, row.length = sz := by
 intro row hrow
 obtain ⟨k, hk⟩ := List.getElem?_of_mem hrow
 unfold putN at hk
 rw [List.getElem?_modify] at hk
 cases hq : rows[k]? with
 | none => rw [hq] at hk; cases hk
 | some q =>
  rw [hq] at hk
  simp only [Option.map_eq_map, Option.map_some, Option.some.injEq] at hk
  have hl := hr q (List.mem_of_getElem? hq)
  subst hk
  split
  ·rw [List.length_set]; exact hl
  ·exact hl
theorem putN_get {rows : List (List N)} {i j i' j' : Nat} {c d : N} (h : ((putN rows i j c)[i']?).bind (·[j']?) = some d) : (i' = i ∧ j' = j ∧ d = c ∧ ∃ c', (rows[i]?).bind (·[j]?) = some c') ∨ (¬ (i = i' ∧ j = j') ∧ (rows[i']?).bind (·[j']?) = some d) := by
 unfold putN at h
 rw [List.getElem?_modify] at h
 cases hq : rows[i']? with
 | none => rw [hq] at h; cases h
 | some q =>
  rw [hq] at h
  simp only [Option.map_eq_map, Option.map_some, Option.bind_some] at h
  by_cases hi : i = i'
  ·subst hi
   rw [if_pos rfl, List.getElem?_set] at h
   by_cases hj : j = j'
   ·subst hj
    rw [if_pos rfl] at h
    split at h
    ·rename_i hlt
     exact .inl ⟨rfl, rfl, (Option.some.inj h).symm, q[j], by rw [hq]; exact List.getElem?_eq_getElem hlt⟩
    ·cases h
   ·rw [if_neg hj] at h
    exact .inr ⟨fun e => hj e.2, by exact h⟩
  ·rw [if_neg hi] at h
   exact .inr ⟨fun e => hi e.1, by exact h⟩
theorem pos_inj {sz i j i' j' : Nat} (hj : j < sz) (hj' : j' < sz) (h : i * sz + j = i' * sz + j') : i = i' ∧ j = j' := by
 have hz : 0 < sz := by omega
 have e1 : (i * sz + j) / sz = i := by rw [Nat.mul_comm, Nat.mul_add_div hz, Nat.div_eq_of_lt hj]; omega
 have e2 : (i' * sz + j') / sz = i' := by rw [Nat.mul_comm, Nat.mul_add_div hz, Nat.div_eq_of_lt hj']; omega
 have hi : i = i' := by rw [← e1, ← e2, h]
 subst hi
 exact ⟨rfl, by omega⟩
theorem cell_lt {rows : List (List N)} {sz i j : Nat} {c : N} (hr : ∀ row ∈ rows, row.length = sz) (h : (rows[i]?).bind (·[j]?) = some c) : i < rows.length ∧ j < sz := by
 obtain ⟨q, hq, hj⟩ := Option.bind_eq_some_iff.1 h
 exact ⟨(List.getElem?_eq_some_iff.1 hq).1, by rw [← hr q (List.mem_of_getElem? hq)]; exact (List.getElem?_eq_some_iff.1 hj).1⟩
theorem NRep.free {R : Addr → Value → Prop} {w : World} {c : N} {m u : Value} (h : NRep R w c m u) {R' : Addr → Value → Prop} (hR : ∀ a v, R a v → R' a v) : NRep R' w c m u := h.move hR (fun _ _ => rfl)
theorem Rep.focus (r : Rep n cx g ⟨s, h, x⟩ a w) {id i j sz s' : Nat} {t e : TypeId} {rows : List (List N)} {ys : List (List D)} (hl : lk h id = some (.nest t sz rows none)) (hc : (rows[i]?).bind (·[j]?) = some (.own e s' ys)) :
  ∃ g', Rep n cx g' ⟨renS (ρt id (x + 1)) s, tradeH [(x + 1, .nest t sz rows (some (i, j, x))), (x, .arr e s' ys)] [id] (ρt id (x + 1)) h, x + 2⟩ a w := by
 obtain ⟨v, ms, us, hgv, e1, e2, e3, e4, e5, e6, e7⟩ := r.nest hl
 obtain ⟨m, u, hm, hu, hin, hbu⟩ := e6 i j _ hc
 obtain ⟨hilt, hjlt⟩ := cell_lt e2 hc
 have hlt : id < x := (r.h.obj _ _ hgv).1
 have hv1 : hdV v = v := ownsRow_hd e1
 obtain ⟨⟨ks, k1, k2, k3⟩, k4, k5⟩ := hin
 have hm1 : hdV m = m := ownsRow_hd k1
 have hmo : m.oneCell' = true := e4 m (List.mem_of_getElem? hm)
 have hplt : i * sz + j < us.length := (List.getElem?_eq_some_iff.1 hu).1
 let us' := us.set (i * sz + j) undef
 let g' : Nat → Value := setG (setG g x m) (x + 1) (.agg (v :: us').toArray)
 have gx : g' x = m := by simp [g', setG]
 have gx1 : g' (x + 1) = .agg (v :: us').toArray := by simp [g', setG]
 have hus' : ∀ (p : Nat) (q : Value) (k : Nat), (v :: us')[p]? = some q → blk q = some k → p ≠ i * sz + j + 1 ∧ (v :: us)[p]? = some q := by
  intro p q k hq hk
  cases p with
  | zero => exact ⟨by omega, hq⟩
  | succ p =>
   rw [List.getElem?_cons_succ] at hq ⊢
   rw [List.getElem?_set] at hq
   by_cases hp : i * sz + j = p
   ·rw [if_pos hp, if_pos hplt] at hq
    obtain rfl := Option.some.inj hq
    cases hk
   ·rw [if_neg hp] at hq
    exact ⟨by omega, hq⟩
 have blkA : ∀ k, Blk (.agg (v :: us').toArray) k → ∃ (p : Nat) (q : Value), (v :: us)[p]? = some q ∧ blk q = some k ∧ p ≠ i * sz + j + 1 := by
  rintro k (hk | ⟨qs, hqs, q, hq, hk⟩)
  ·cases hk
  ·obtain rfl := Value.agg.inj hqs
   obtain ⟨p, hp⟩ := List.getElem?_of_mem (List.mem_toArray.1 hq)
   exact ⟨p, q, (hus' p q k hp hk).2, hk, (hus' p q k hp hk).1⟩
 have blkO : ∀ (p : Nat) (q : Value) (k : Nat), (v :: us)[p]? = some q → blk q = some k → Blk (.agg (v :: us).toArray) k := fun p q k hp hk => .inr ⟨_, rfl, q, List.mem_toArray.2 (List.mem_of_getElem? hp), hk⟩
 have hN : ∀ k q, gvOf [(x + 1, O.nest t sz rows (some (i, j, x))), (x, .arr e s' ys)] g' k = some q → (k = x + 1 ∧ q = .agg (v :: us').toArray) ∨ (k = x ∧ q = m) := by
  intro k q hq
  unfold gvOf at hq
  by_cases h1 : k = x + 1
  ·subst h1
   rw [lk_same] at hq
   simp only [O.live, if_true, gx1] at hq
   exact .inl ⟨rfl, (Option.some.inj hq).symm⟩
  ·rw [lk_other _ _ (Ne.symm h1)] at hq
   by_cases h2 : k = x
   ·subst h2
    rw [lk_same] at hq
    simp only [O.live, if_true, gx] at hq
    exact .inr ⟨rfl, (Option.some.inj hq).symm⟩
   ·rw [lk_other _ _ (Ne.symm h2)] at hq
    cases hq
 refine ⟨g', r.trade ?_ ?_ (by omega) ?_ ?_ ?_ ?_ ?_⟩
 ·intro k o hk
  simp only [lk_cons] at hk
  split at hk
  ·omega
  ·split at hk
   ·omega
   ·cases hk
 ·intro k hk
  simp only [g', setG]
  rw [if_neg (by omega), if_neg (by omega)]
 ·intro k q hq
  rcases hN k q hq with ⟨rfl, rfl⟩ | ⟨rfl, rfl⟩
  ·refine ⟨by omega, fun b hb => ⟨id, by simp, _, hgv, ?_⟩⟩
   obtain ⟨p, q, h1, h2, _⟩ := blkA b hb
   exact blkO p q b h1 h2
  ·refine ⟨by omega, fun b hb => ⟨id, by simp, _, hgv, ?_⟩⟩
   exact blkO (i * sz + j + 1) u b (by rw [List.getElem?_cons_succ]; exact hu) (by rw [hbu]; exact hb.inv hmo)
 ·intro k k' q q' b h1 h2 h3 h4
  have mix : Blk (.agg (v :: us').toArray) b → Blk m b → False := fun hA hB => by
   obtain ⟨p, q, h1, h2, h3⟩ := blkA b hA
   exact h3 (e7 p (i * sz + j + 1) q u b h1 (by rw [List.getElem?_cons_succ]; exact hu) h2 (by rw [hbu]; exact hB.inv hmo))
  rcases hN k q h1 with ⟨rfl, rfl⟩ | ⟨rfl, rfl⟩ <;> rcases hN k' q' h2 with ⟨rfl, rfl⟩ | ⟨rfl, rfl⟩
  ·rfl
  ·exact (mix h3 h4).elim
  ·exact (mix h4 h3).elim
  ·rfl
 ·intro k hk
  unfold ρt
  split <;> omega
 ·intro k q hk hq
  by_cases hki : k = id
  ·subst hki
   rw [ρt_eq] at hq
   refine ⟨_, hgv, .inr ?_⟩
   have : q = .agg (v :: us').toArray := by
    unfold gvOf tradeH at hq
    rw [List.cons_append, lk_same] at hq
    simp only [O.live, if_true, gx1] at hq
    exact (Option.some.inj hq).symm
   subst this
   refine ⟨rfl, ?_⟩
   rcases e1.2 with ⟨rfl, _⟩ | ⟨_, _, _, rfl, _⟩
   ·exact ⟨none, 0, 0, rfl⟩
   ·exact ⟨_, _, _, rfl⟩
  ·rw [ρt_ne hki] at hq
   rcases trade_gv (L := [id]) (ρ := ρt id (x + 1)) (show HRep cx g h x w from r.h) (fun k o hk => by
    simp only [lk_cons] at hk
    split at hk
    ·omega
    ·split at hk
     ·omega
     ·cases hk) (fun k hk => by simp only [g', setG]; rw [if_neg (by omega), if_neg (by omega)]) hq with ⟨_, h2, _⟩ | ⟨_, _, h2, _⟩
   ·omega
   ·exact ⟨q, h2, .inl rfl⟩
 ·intro R' _ hrd hv k q hq
  have gvx : gvOf (tradeH [(x + 1, .nest t sz rows (some (i, j, x))), (x, .arr e s' ys)] [id] (ρt id (x + 1)) h) g' x = some m := by
   unfold gvOf tradeH
   rw [List.cons_append, lk_other _ _ (by omega), List.cons_append, lk_same]
   simp [O.live, gx]
  rcases hN k q hq with ⟨rfl, rfl⟩ | ⟨rfl, rfl⟩
  ·refine ⟨_, lk_same _ _ _, .nest t sz rows _ v ms us' e1 e2 e3 e4 (by simp [us', e5]) (fun i' j' c hc' => ?_) ?_⟩
   ·obtain ⟨m', u', h1, h2, h3⟩ := e6 i' j' c hc'
    obtain ⟨_, hj'⟩ := cell_lt e2 hc'
    by_cases hij : i = i' ∧ j = j'
    ·obtain ⟨rfl, rfl⟩ := hij
     rw [hm] at h1
     obtain rfl := Option.some.inj h1
     refine ⟨m, undef, hm, by simp [us', List.getElem?_set, hplt], ?_⟩
     simp only [HoleRep, and_self, if_true]
     refine ⟨.ref x m (by omega) hmo (fun v' hv' => ?_), rfl⟩
     rw [gvx] at hv'
     obtain rfl := Option.some.inj hv'
     exact hm1.symm
    ·refine ⟨m', u', h1, ?_, ?_⟩
     ·have hne : i * sz + j ≠ i' * sz + j' := fun e => hij (pos_inj hjlt hj' e)
      simp only [us', List.getElem?_set, if_neg hne]
      exact h2
     ·simp only [HoleRep, if_neg hij]
      exact NRep.free h3 hrd
   ·intro p q u1 u2 k h1 h2 h3 h4
    exact e7 p q u1 u2 k (hus' p u1 k h1 h3).2 (hus' q u2 k h2 h4).2 h3 h4
  ·refine ⟨_, by rw [lk_other _ _ (by omega), lk_same], .arr e s' ys q ks k1 k4 k5 k2 (fun i j d hd => let ⟨k, hk, hd⟩ := k3 i j d hd; ⟨k, hk, hd.mono hrd⟩)⟩
theorem agg_blk {v : Value} {us : List Value} {k : Nat} (h : Blk (.agg (v :: us).toArray) k) : ∃ (p : Nat) (q : Value), (v :: us)[p]? = some q ∧ blk q = some k := by
 rcases h with hk | ⟨qs, hqs, q, hq, hk⟩
 ·cases hk
 ·obtain rfl := Value.agg.inj hqs
  obtain ⟨p, hp⟩ := List.getElem?_of_mem (List.mem_toArray.1 hq)
  exact ⟨p, q, hp, hk⟩
theorem blk_agg {v : Value} {us : List Value} {k p : Nat} {q : Value} (hp : (v :: us)[p]? = some q) (hk : blk q = some k) : Blk (.agg (v :: us).toArray) k := .inr ⟨_, rfl, q, List.mem_toArray.2 (List.mem_of_getElem? hp), hk⟩
theorem row_is {w : World} {t : TypeId} {sz n : Nat} {v : Value} {ms : List Value} (h : w.ownsRow 0 t sz v n ms) : ∃ A n c, v = .slice A n c := by
 rcases h.2 with ⟨rfl, _⟩ | ⟨_, _, _, rfl, _⟩
 ·exact ⟨none, 0, 0, rfl⟩
 ·exact ⟨_, _, _, rfl⟩
theorem row_like {w : World} {t : TypeId} {sz n : Nat} {v : Value} {ms : List Value} (h : w.ownsRow 0 t sz v n ms) : ∃ A n c, hdV v = .slice A n c := by
 rcases h.2 with ⟨rfl, _⟩ | ⟨_, _, _, rfl, _⟩
 ·exact ⟨none, 0, 0, rfl⟩
 ·exact ⟨_, _, _, rfl⟩
theorem Rep.trade1 (r : Rep n cx g ⟨s, h, x⟩ a w) {id : Nat} {L : List Nat} {o : O} {v v' : Value} (hid : id ∈ L) (hgv : gvOf h g id = some v) (hl : o.live = true) (hlike : Like v v')
  (hb : ∀ b, Blk v' b → ∃ j ∈ L, ∃ u, gvOf h g j = some u ∧ Blk u b)
  (hO : ∀ (R' : Addr → Value → Prop), R' = Rd cx.z (tradeH [(x, o)] L (ρt id x) h) (setG g x v') w → (∀ ad v, Rd cx.z h g w ad v → R' ad v) → ORep R' (gvOf (tradeH [(x, o)] L (ρt id x) h) (setG g x v')) (x + 1) w o v') :
  Rep n cx (setG g x v') ⟨renS (ρt id x) s, tradeH [(x, o)] L (ρt id x) h, x + 1⟩ a w := by
 have hh : HRep cx g h x w := r.h
 have hlt : id < x := (hh.obj _ _ hgv).1
 have gx : setG g x v' x = v' := by simp [setG]
 have hN0 : ∀ i p, lk [(x, o)] i = some p → x ≤ i := fun k p hk => by
  simp only [lk_cons] at hk
  split at hk
  ·omega
  ·cases hk
 have hg0 : ∀ i, i < x → setG g x v' i = g i := fun k hk => by
  simp only [setG]; rw [if_neg (by omega)]
 have hN : ∀ k q, gvOf [(x, o)] (setG g x v') k = some q → k = x ∧ q = v' := by
  intro k q hq
  unfold gvOf at hq
  by_cases h1 : x = k
  ·subst h1
   rw [lk_same] at hq
   simp only [hl, if_true, gx] at hq
   exact ⟨rfl, (Option.some.inj hq).symm⟩
  ·rw [lk_other _ _ h1] at hq
   cases hq
 refine r.trade hN0 hg0 (by omega) ?_ ?_ ?_ ?_ ?_
 ·intro k q hq
  obtain ⟨rfl, rfl⟩ := hN k q hq
  exact ⟨by omega, hb⟩
 ·intro k k' q q' b h1 h2 _ _
  rw [(hN k q h1).1, (hN k' q' h2).1]
 ·intro k hk
  unfold ρt
  split <;> omega
 ·intro k q hk hq
  by_cases hki : k = id
  ·subst hki
   rw [ρt_eq] at hq
   have : q = v' := by
    unfold gvOf tradeH at hq
    rw [List.cons_append, lk_same] at hq
    simp only [hl, if_true, gx] at hq
    exact (Option.some.inj hq).symm
   subst this
   exact ⟨_, hgv, hlike⟩
  ·rw [ρt_ne hki] at hq
   rcases trade_gv (L := L) (ρ := ρt id x) hh hN0 hg0 hq with ⟨_, h2, _⟩ | ⟨_, _, h2, _⟩
   ·omega
   ·exact ⟨q, h2, .inl rfl⟩
 ·intro R' hR hrd _ k q hq
  obtain ⟨rfl, rfl⟩ := hN k q hq
  exact ⟨o, lk_same _ _ _, hO R' hR hrd⟩
theorem Rep.unfocus (r : Rep n cx g ⟨s, h, x⟩ a w) {id id' i j sz s' : Nat} {t e : TypeId} {rows : List (List N)} {ys : List (List D)} (hl : lk h id = some (.nest t sz rows (some (i, j, id')))) (hl' : lk h id' = some (.arr e s' ys)) (hij : i < rows.length ∧ j < sz) :
  ∃ g', Rep n cx g' ⟨renS (ρt id x) s, tradeH [(x, .nest t sz (putN rows i j (.own e s' ys)) none)] [id, id'] (ρt id x) h, x + 1⟩ a w := by
 obtain ⟨v, ms, us, hgv, e1, e2, e3, e4, e5, e6, e7⟩ := r.nest hl
 obtain ⟨v', ks, hgv', k1, k4, k5, k2, k3⟩ := r.arr hl'
 have hh : HRep cx g h x w := r.h
 have hne : id ≠ id' := by rintro rfl; rw [hl] at hl'; cases hl'
 obtain ⟨c, hc⟩ : ∃ c, (rows[i]?).bind (·[j]?) = some c := by
  have hr := e2 _ (List.getElem_mem hij.1)
  exact ⟨rows[i][j]'(by rw [hr]; exact hij.2), by rw [List.getElem?_eq_getElem hij.1]; exact List.getElem?_eq_getElem _⟩
 obtain ⟨m, u, hm, hu, hhole⟩ := e6 i j _ hc
 simp only [HoleRep, and_self, if_true] at hhole
 have hm' : m = v' := by
  cases hhole.1 with
  | ref _ _ _ _ h3 => exact (h3 _ hgv').trans (ownsRow_hd k1)
 have hplt : i * sz + j < us.length := (List.getElem?_eq_some_iff.1 hu).1
 have hmo : v'.oneCell' = true := by rw [← hm']; exact e4 m (List.mem_of_getElem? hm)
 have hus : ∀ (p : Nat) (q : Value), (v :: us.set (i * sz + j) v')[p]? = some q → (p ≠ i * sz + j + 1 ∧ (v :: us)[p]? = some q) ∨ (p = i * sz + j + 1 ∧ q = v') := by
  intro p q hq
  cases p with
  | zero => exact .inl ⟨by omega, hq⟩
  | succ p =>
   rw [List.getElem?_cons_succ] at hq ⊢
   rw [List.getElem?_set] at hq
   by_cases hp : i * sz + j = p
   ·rw [if_pos hp, if_pos hplt] at hq
    exact .inr ⟨by omega, (Option.some.inj hq).symm⟩
   ·rw [if_neg hp] at hq
    exact .inl ⟨by omega, hq⟩
 refine ⟨setG g x (.agg (v :: us.set (i * sz + j) v').toArray), r.trade1 (by simp) hgv rfl (.inr ⟨rfl, row_is e1⟩) (fun b hb => ?_) (fun R' _ hrd => ?_)⟩
 ·obtain ⟨p, q, h1, h2⟩ := agg_blk hb
  rcases hus p q h1 with ⟨_, h3⟩ | ⟨_, rfl⟩
  ·exact ⟨id, by simp, _, hgv, blk_agg h3 h2⟩
  ·exact ⟨id', by simp, _, hgv', .inl h2⟩
 ·refine .nest t sz _ _ v ms _ (by rw [putN_length]; exact e1) (putN_row e2) (by rw [putN_length]; exact e3) e4 (by rw [List.length_set]; exact e5) (fun i' j' c' hc' => ?_) ?_
  ·rcases putN_get hc' with ⟨rfl, rfl, rfl, _⟩ | ⟨hne', h1⟩
   ·refine ⟨m, v', hm, by rw [List.getElem?_set, if_pos rfl, if_pos hplt], ?_⟩
    refine ⟨⟨⟨ks, by rw [hm']; exact k1, k2, fun i j d hd => let ⟨k, hk, hd⟩ := k3 i j d hd; ⟨k, hk, hd.mono hrd⟩⟩, k4, k5⟩, by rw [hm']⟩
   ·obtain ⟨m2, u2, q1, q2, q3⟩ := e6 i' j' c' h1
    obtain ⟨_, hj'⟩ := cell_lt e2 h1
    simp only [HoleRep, if_neg hne'] at q3
    refine ⟨m2, u2, q1, ?_, NRep.free q3 hrd⟩
    rw [List.getElem?_set, if_neg (fun e => hne' (pos_inj hij.2 hj' e))]
    exact q2
  ·have cross : ∀ (p : Nat) (q : Value) (k : Nat), (v :: us)[p]? = some q → blk q = some k → blk v' = some k → False := fun p q k h1 h2 h3 => hne (hh.apart _ _ _ _ _ hgv hgv' (blk_agg h1 h2) (.inl h3))
   intro p q u1 u2 k h1 h2 h3 h4
   rcases hus p u1 h1 with ⟨_, a1⟩ | ⟨a1, rfl⟩ <;> rcases hus q u2 h2 with ⟨_, b1⟩ | ⟨b1, rfl⟩
   ·exact e7 p q u1 u2 k a1 b1 h3 h4
   ·exact (cross p u1 k a1 h3 h4).elim
   ·exact (cross q u2 k b1 h4 h3).elim
   ·rw [a1, b1]
def NOk (d : D) (c : N) : Prop := c = .dat d ∨ (d = .val (.slice none 0 0) ∧ ∃ e s, c = .own e s [])
theorem NOk.rep {R : Addr → Value → Prop} {w : World} {d : D} {c : N} {m : Value} (h : NOk d c) (hd : DRep R d m) : NRep R w c m undef := by
 rcases h with rfl | ⟨rfl, e, s, rfl⟩
 ·exact ⟨hd, rfl⟩
 ·cases hd with
  | val => exact ⟨⟨⟨[], World.ownsRow_nil _ _ _ _, (fun k hk => by cases hk), (fun i j d hd => by simp at hd)⟩, (fun row hr => by cases hr), Nat.zero_le _⟩, rfl⟩
theorem none_blk {v : Value} {k p l : Nat} {q : Value} (h : (v :: List.replicate l undef)[p]? = some q) (hk : blk q = some k) : p = 0 ∧ q = v := by
 cases p with
 | zero => simp at h; exact ⟨rfl, h.symm⟩
 | succ p =>
  rw [List.getElem?_cons_succ, List.getElem?_replicate] at h
  split at h
  ·obtain rfl := Option.some.inj h; cases hk
  ·cases h
inductive ROk : List D → List N → Prop
 | nil : ROk [] []
 | cons {d : D} {c : N} {ds : List D} {cs : List N} : NOk d c → ROk ds cs → ROk (d :: ds) (c :: cs)
theorem ROk.length {ds : List D} {cs : List N} (h : ROk ds cs) : cs.length = ds.length := by
 induction h with
 | nil => rfl
 | cons _ _ ih => simp [ih]
theorem ROk.get {ds : List D} {cs : List N} (h : ROk ds cs) : ∀ (j : Nat) (c : N), cs[j]? = some c → ∃ d, ds[j]? = some d ∧ NOk d c := by
 induction h with
 | nil => intro j c hc; simp at hc
 | cons h1 _ ih =>
  intro j c hc
  cases j with
  | zero => simp at hc; subst hc; exact ⟨_, rfl, h1⟩
  | succ j => simpa using ih j c (by simpa using hc)
theorem NOk.dat (d : D) : NOk d (.dat d) := .inl rfl
theorem NOk.nil (e : TypeId) (s : Nat) : NOk (.val (.slice none 0 0)) (.own e s []) := .inr ⟨rfl, e, s, rfl⟩
theorem Rep.turn (r : Rep n cx g ⟨s, h, x⟩ a w) {id sz : Nat} {t : TypeId} {xs : List (List D)} (φ : List D → List N) (hl : lk h id = some (.arr t sz xs)) (hφ : ∀ row ∈ xs, ROk row (φ row)) :
  ∃ g', Rep n cx g' ⟨renS (ρt id x) s, tradeH [(x, .nest t sz (xs.map φ) none)] [id] (ρt id x) h, x + 1⟩ a w := by
 obtain ⟨v, ms, hgv, e1, e2, e3, e4, e5⟩ := r.arr hl
 refine ⟨setG g x (.agg (v :: List.replicate ms.length undef).toArray), r.trade1 (by simp) hgv rfl (.inr ⟨(ownsRow_hd e1), row_is e1⟩) (fun b hb => ?_) (fun R' _ hrd => ?_)⟩
 ·obtain ⟨p, q, h1, h2⟩ := agg_blk hb
  obtain ⟨_, rfl⟩ := none_blk h1 h2
  exact ⟨id, by simp, _, hgv, .inl h2⟩
 ·refine .nest t sz _ _ v ms _ (by rw [List.length_map]; exact e1) (fun row hr => ?_) (by rw [List.length_map]; exact e3) e4 (by simp) (fun i j c hc => ?_) ?_
  ·obtain ⟨q, hq, rfl⟩ := List.mem_map.1 hr
   rw [(hφ q hq).length]; exact e2 q hq
  ·obtain ⟨row', h1, h2⟩ := Option.bind_eq_some_iff.1 hc
   rw [List.getElem?_map] at h1
   obtain ⟨row, h3, rfl⟩ := Option.map_eq_some_iff.1 h1
   obtain ⟨d, h4, h5⟩ := (hφ row (List.mem_of_getElem? h3)).get j c h2
   obtain ⟨m, hm, hr⟩ := e5 i j d (by rw [h3]; exact h4)
   exact ⟨m, undef, hm, by rw [List.getElem?_replicate, if_pos (List.getElem?_eq_some_iff.1 hm).1], h5.rep (hr.mono hrd)⟩
  ·intro p q u1 u2 k h1 h2 h3 h4
   rw [(none_blk h1 h3).1, (none_blk h2 h4).1]
theorem Rep.loose (r : Rep n cx g ⟨s, h, x⟩ a w) {id sz : Nat} {t : TypeId} {rows : List (List N)} (hl : lk h id = some (.nest t sz rows none)) :
  ∃ g', Rep n cx g' ⟨renS (ρt id x) s, tradeH [(x, .arr t sz (rows.map fun r => r.map N.toD))] [id] (ρt id x) h, x + 1⟩ a w := by
 obtain ⟨v, ms, us, hgv, e1, e2, e3, e4, e5, e6, e7⟩ := r.nest hl
 have hh : HRep cx g h x w := r.h
 have hv1 : hdV v = v := ownsRow_hd e1
 have hvo : v.oneCell' = true := by
  rcases e1.2 with ⟨rfl, _⟩ | ⟨_, _, _, rfl, _⟩ <;> rfl
 refine ⟨setG g x v, r.trade1 (by simp) hgv rfl (.inr ⟨hv1.symm, row_like e1⟩) (fun b hb => ?_) (fun R' hR' hrd => ?_)⟩
 ·exact ⟨id, by simp, _, hgv, .main (hb.inv hvo)⟩
 ·refine .arr t sz _ v ms (by rw [List.length_map]; exact e1) (fun row hr => ?_) (by rw [List.length_map]; exact e3) e4 (fun i j c hc => ?_)
  ·obtain ⟨q, hq, rfl⟩ := List.mem_map.1 hr
   rw [List.length_map]; exact e2 q hq
  ·rw [rows_get] at hc
   obtain ⟨c', hc', rfl⟩ := Option.map_eq_some_iff.1 hc
   obtain ⟨m, u, hm, hu, hr⟩ := e6 i j c' hc'
   refine ⟨m, hm, ?_⟩
   simp only [HoleRep] at hr
   suffices key : ∀ c'' : N, (∀ v e s ys, c'' ≠ .pin v e s ys) → NRep (Rd cx.z h g w) w c'' m u → DRep R' c''.toD m by
    cases c' with
    | dat d => exact key _ (fun _ _ _ _ h => by cases h) hr
    | own e s' ys => exact key _ (fun _ _ _ _ h => by cases h) hr
    | pin v e s' ys => exact key (.own e s' ys) (fun _ _ _ _ h => by cases h) hr.1
   clear hr hc' hc
   intro c' hnp hr
   cases c' with
   | dat d => exact hr.1.mono hrd
   | pin v e s' ys => exact absurd rfl (hnp v e s' ys)
   | own e s' ys =>
    obtain ⟨⟨⟨ks, k1, k2, k3⟩, k4, k5⟩, hbu⟩ := hr
    simp only [N.toD]
    have k1' := k1
    rcases k1.2 with ⟨rfl, h0'⟩ | ⟨bb, cap, cur, hmv, _⟩
    ·rw [List.eq_nil_of_length_eq_zero h0']; exact .nil _ _ _
    ·subst hmv
     have hcap : ys.length ≤ cap := by
      rcases k1'.2 with ⟨h, _⟩ | ⟨bb', cap', cur', h, h1, h2, h3⟩
      ·cases h
      ·cases h; exact h3.1
     have hub : blk u = some bb := hbu
     have hin : Blk (.agg (v :: us).toArray) bb := .inner hu hub
     have hfree : ¬ cx.z bb ∧ ¬ Own (tradeH [(x, .arr t sz (rows.map fun r => r.map N.toD))] [id] (ρt id x) h) (setG g x v) bb := by
      refine ⟨fun hz => ?_, ?_⟩
      ·obtain ⟨q1, q2⟩ := hh.apz _ hz
       rcases (hh.mine _ _ _ hgv hin).2 with h | h
       ·exact q2 h
       ·omega
      ·rintro ⟨k, q, h1, h2⟩
       rcases trade_gv (L := [id]) (ρ := ρt id x) hh (fun k p hk => by
        simp only [lk_cons] at hk
        split at hk
        ·omega
        ·cases hk) (fun k hk => by simp only [setG]; rw [if_neg (by omega)]) h1 with ⟨h3, _⟩ | ⟨h3, _, h4, _⟩
       ·have hq : q = v := by
         unfold gvOf at h3
         by_cases hk : x = k
         ·subst hk
          rw [lk_same] at h3
          simp only [O.live, if_true, setG] at h3
          exact (Option.some.inj h3).symm
         ·rw [lk_other _ _ hk] at h3; cases h3
        subst hq
        have := e7 0 (i * sz + j + 1) q u bb rfl (by rw [List.getElem?_cons_succ]; exact hu) (h2.inv hvo) hub
        omega
       ·have := hh.apart _ _ _ _ _ h4 hgv h2 hin
        subst this; simp at h3
     have hcell : ∀ p k, ks[p]? = some k → R' ((⟨bb, 0, none⟩ : Addr).add p) k := fun p k hk => by
      have hc := k1.cells (g := bb) rfl p k hk
      have hblk : ((⟨bb, 0, none⟩ : Addr).add p).block = bb := by unfold Addr.add; split <;> rfl
      rw [hR']
      exact ⟨by rw [hblk]; exact hfree.1, by rw [hblk]; exact hfree.2, hc⟩
     refine .sl s' ys ⟨bb, 0, none⟩ cap (fun i j => ks.getD (i * s' + j) undef) hcap k5 k4 (fun i j d hd => ?_) (fun i j d hd => ?_)
     ·obtain ⟨k, hk, _⟩ := k3 i j d hd
      rw [List.getD_eq_getElem?_getD, hk]; exact hcell _ _ hk
     ·obtain ⟨k, hk, hr⟩ := k3 i j d hd
      rw [List.getD_eq_getElem?_getD, hk]; exact hr.mono hrd
end
end Go.Proofs.Ytfjfbapiheehaaa.V
namespace Go.Proofs.Ytfjfbapiheehaaa.V
open Go Go.RowKit Go.Proofs.YtfjfbapiheehaaaW.PrintWords
section
variable {P : Program} {n : Nat} {cx : Cx} {st : St} {o : Oper} {m : List Nat}
theorem nest_addr {g : Nat → Value} {a : Act} {w : World} (r : Rep n cx g st a w) {id sz : Nat} {t : TypeId} {rows : List (List N)} {hole : Option (Nat × Nat × Nat)} (hh : lk st.h id = some (.nest t sz rows hole)) (hne : 0 < rows.length) :
  ∃ bb cap us, gvOf st.h g id = some (.agg (.slice (some ⟨bb, 0, none⟩) rows.length cap :: us).toArray) := by
 obtain ⟨v, ms, us, hgv, e1, _⟩ := r.nest hh
 rcases e1.2 with ⟨rfl, h0'⟩ | ⟨bb, cap, cur, rfl, _⟩
 ·omega
 ·exact ⟨bb, cap, us, hgv⟩
theorem VPure.idx_nest {id s s' b b' : Nat} {t e e' : TypeId} {z z' : Value} {d' : TypeDesc} {k : IntKind} {i : Int} {x y : Operand} {rows : List (List N)} {hole : Option (Nat × Nat × Nat)} (ho : o.op = .indexAddr t x y) (hx : ev st.s x = some (.ref id)) (hy : ev st.s y = some (.val (.int k i))) (hh : lk st.h id = some (.nest e' s' rows hole)) [ht : TI P t (.slice e) s b z] [he : TI P e d' s' b' z'] (h0 : 0 ≤ i) (h1 : i < rows.length) :
  VPure P n cx o st (.ael id (i.toNat * s')) := fun g a w r => by
 have h2 := ev_rep r hx
 have h3 := (ev_rep r hy).val_inv
 obtain ⟨bb, cap, us, hgv⟩ := nest_addr r hh (by omega)
 generalize hex : a.eval x = mm at h2
 cases h2 with
 | ref _ _ h4 h5 h6 =>
  have hm : mm = .slice (some ⟨bb, 0, none⟩) rows.length cap := h6 _ hgv
  subst hm
  refine ⟨.pointer (some ((⟨bb, 0, none⟩ : Addr).add (i.toNat * s'))), .ael _ _ _ h4 rfl (fun vv ad nn c hb hh0 => ?_), fun w' => ?_⟩
  ·rw [hgv] at hb
   obtain rfl := Option.some.inj hb
   have hh0 : Value.slice (some ⟨bb, 0, none⟩) rows.length cap = .slice (some ad) nn c := hh0
   injection hh0 with hb _ _; injection hb with hb
   rw [hb]
  ·unfold execOp; rw [ho]; simp only [hex, h3]
   rw [Sem.run_bind, run_index_slice ht he h0 h1]; rfl
theorem ael_add {g : Nat → Value} {a : Act} {w : World} (r : Rep n cx g st a w) {id pos : Nat} {bb len cap : Nat} {us : List Value} {x : Operand} (hx : ev st.s x = some (.ael id pos)) (hgv : gvOf st.h g id = some (.agg (.slice (some ⟨bb, 0, none⟩) len cap :: us).toArray)) :
  a.eval x = .pointer (some ((⟨bb, 0, none⟩ : Addr).add pos)) ∧ ∀ q, VRep (Rd cx.z st.h g w) (gvOf st.h g) st.x (.ael id q) (.pointer (some ((⟨bb, 0, none⟩ : Addr).add q))) := by
 have h2 := ev_rep r hx
 generalize a.eval x = mm at h2
 cases h2 with
 | ael _ _ _ h4 h5 h6 =>
  refine ⟨h6 _ _ _ _ hgv rfl, fun q => .ael _ _ _ h4 rfl (fun vv ad nn c hb hh0 => ?_)⟩
  rw [hgv] at hb
  obtain rfl := Option.some.inj hb
  have hh0 : Value.slice (some ⟨bb, 0, none⟩) len cap = .slice (some ad) nn c := hh0
  injection hh0 with hb _ _; injection hb with hb
  rw [hb]
theorem nest_cell {g : Nat → Value} {a : Act} {w w' : World} (r : Rep n cx g st a w) {id sz : Nat} {e' : TypeId} {rows : List (List N)} {hole : Option (Nat × Nat × Nat)} (hh : lk st.h id = some (.nest e' sz rows hole)) (hm : id ∉ m)
  (hw' : ∀ k, k < w.heap.size → (∀ id ∈ m, ∀ v, gvOf st.h g id = some v → ¬ Blk v k) → w'.heap[k]? = w.heap[k]?) {bb cap : Nat} {us : List Value} (hgv : gvOf st.h g id = some (.agg (.slice (some ⟨bb, 0, none⟩) rows.length cap :: us).toArray)) {ms : List Value} (e1 : w.ownsRow 0 e' sz (.slice (some ⟨bb, 0, none⟩) rows.length cap) rows.length ms)
  (p : Nat) (u : Value) (hu : ms[p]? = some u) : w'.cell? ((⟨bb, 0, none⟩ : Addr).add p) = some u := by
 have hc := e1.cells (g := bb) rfl p u hu
 have hblk : ((⟨bb, 0, none⟩ : Addr).add p).block = bb := by unfold Addr.add; split <;> rfl
 have hlt := World.block_lt_of_cell? w _ hc
 rw [hblk] at hlt
 refine (World.cell?_of_block (w := w) ?_).trans hc
 rw [hblk]
 exact hw' bb hlt (fun id' hid v hv hbk => by
  have := r.h.apart _ _ _ _ _ hv hgv hbk (.main rfl)
  subst this; exact hm hid)
theorem VLoad.hole {id id' pos i j sz b : Nat} {t e' : TypeId} {x : Operand} {d : TypeDesc} {s : Nat} {z : Value} {rows : List (List N)} (ho : o.op = .load t x) (hx : ev st.s x = some (.ael id pos)) (hh : lk st.h id = some (.nest e' sz rows (some (i, j, id')))) (hp : pos = i * sz + j) (hij : i < rows.length ∧ j < sz) [ht : TI P t d s b z] (hd : aggT d = false) (hm : id ∉ m) :
  VLoad P n cx m o st (.ref id') := fun g a w r => by
 obtain ⟨v, ms, us, hgv, e1, e2, e3, e4, e5, e6, e7⟩ := r.nest hh
 rcases e1.2 with ⟨rfl, h0'⟩ | ⟨bb, cap, cur, hv, _⟩
 ·omega
 ·subst hv
  obtain ⟨c, hc⟩ : ∃ c, (rows[i]?).bind (·[j]?) = some c := by
   have hr := e2 _ (List.getElem_mem hij.1)
   exact ⟨rows[i][j]'(by rw [hr]; exact hij.2), by rw [List.getElem?_eq_getElem hij.1]; exact List.getElem?_eq_getElem _⟩
  obtain ⟨u, u', hu, _, hr⟩ := e6 i j c hc
  simp only [HoleRep, and_self, if_true] at hr
  rw [← hp] at hu
  obtain ⟨q1, _⟩ := ael_add r hx hgv
  refine ⟨u, hr.1, fun w' hw' => ?_⟩
  have hcell := nest_cell r hh hm hw' hgv e1 pos u hu
  unfold execOp; rw [ho]; simp only [q1]
  rw [Sem.run_bind, run_load1 ht.und hd hcell]; rfl
theorem VLoad.dat {id pos i j sz b : Nat} {t e' : TypeId} {x : Operand} {d : TypeDesc} {s : Nat} {z : Value} {rows : List (List N)} {hole : Option (Nat × Nat × Nat)} {c : D} (ho : o.op = .load t x) (hx : ev st.s x = some (.ael id pos)) (hh : lk st.h id = some (.nest e' sz rows hole)) (hp : pos = i * sz + j) (hc : (rows[i]?).bind (·[j]?) = some (.dat c)) (hne : ∀ k, hole ≠ some (i, j, k)) [ht : TI P t d s b z] (hd : aggT d = false) (hm : id ∉ m) :
  VLoad P n cx m o st c.toV := fun g a w r => by
 obtain ⟨v, ms, us, hgv, e1, e2, e3, e4, e5, e6, e7⟩ := r.nest hh
 rcases e1.2 with ⟨rfl, h0'⟩ | ⟨bb, cap, cur, hv, _⟩
 ·rw [List.eq_nil_of_length_eq_zero h0'] at hc; simp at hc
 ·subst hv
  obtain ⟨u, u', hu, _, hr⟩ := e6 i j _ hc
  have hr : NRep (Rd cx.z st.h g w) w (.dat c) u u' := by
   match hole, hne, hr with
   | none, _, hr => exact hr
   | some (i', j', k), hne, hr =>
    simp only [HoleRep] at hr
    rw [if_neg (by rintro ⟨rfl, rfl⟩; exact hne k rfl)] at hr
    exact hr
  rw [← hp] at hu
  obtain ⟨q1, _⟩ := ael_add r hx hgv
  refine ⟨u, .of_D hr.1, fun w' hw' => ?_⟩
  have hcell := nest_cell r hh hm hw' hgv e1 pos u hu
  unfold execOp; rw [ho]; simp only [q1]
  rw [Sem.run_bind, run_load1 ht.und hd hcell]; rfl
end
end Go.Proofs.Ytfjfbapiheehaaa.V
namespace Go.Proofs.Ytfjfbapiheehaaa.V
open Go Go.RowKit Go.Proofs.YtfjfbapiheehaaaW.PrintWords
theorem addr0 (bb pos : Nat) : (⟨bb, 0, none⟩ : Addr).add pos = ⟨bb, pos, none⟩ := by unfold Addr.add; split <;> simp_all
section
variable {P : Program} {n : Nat} {cx : Cx} {st : St} {o : Oper} {E : List PanicEntry → St → Prop}
theorem VOp.store_nest {t e' : TypeId} {p x : Operand} {id id' pos i j sz : Nat} {rows : List (List N)} {hole : Option (Nat × Nat × Nat)} {d : TypeDesc} {b : Nat} {z : Value} (ho : o.op = .store t p x) (hp : ev st.s p = some (.ael id pos)) (hx : ev st.s x = some (.ref id')) (hh : lk st.h id = some (.nest e' sz rows hole)) (hpos : pos = i * sz + j) (hij : i < rows.length ∧ j < sz)
  (hfree : (∃ k, hole = some (i, j, k)) ∨ (hole = none ∧ ∃ c, (rows[i]?).bind (·[j]?) = some (.dat c))) [ht : TI P t d 1 b z] :
  VOp P n cx [id] o (fun v' h' x' => v' = .junk ∧ h' = (id, .nest e' sz rows (some (i, j, id'))) :: st.h ∧ x' = st.x) E st := fun g a w r Kc Q hk _ => by
 have hvx := ev_rep r hx
 obtain ⟨mv, hmv⟩ : ∃ mv, a.eval x = mv := ⟨_, rfl⟩
 rw [hmv] at hvx
 obtain ⟨v, ms, us, hgv, e1, e2, e3, e4, e5, e6, e7⟩ := r.nest hh
 have hmo : mv.oneCell' = true := hvx.one rfl
 have hcells : mv.cells = #[mv] := by cases mv <;> first | rfl | cases hmo
 rcases e1.2 with ⟨rfl, h0'⟩ | ⟨bb, cap, cur, hv, hb0, hb, hnc, hcm, hcs, htake⟩
 ·omega
 ·subst hv
  obtain ⟨q1, _⟩ := ael_add r hp hgv
  have hadd := addr0 bb pos
  have hpn : pos + 1 ≤ rows.length * sz := by
   rw [hpos]
   have : (i + 1) * sz ≤ rows.length * sz := Nat.mul_le_mul_right _ hij.1
   rw [Nat.add_mul, Nat.one_mul] at this
   omega
  have hcurn : rows.length * sz ≤ cur.size := by rw [hcs]; exact Nat.mul_le_mul_right _ hnc
  have hrun := run_store (v := mv) (off := pos) ht hb (by rw [hcells]; rfl) (fun u hu => by rw [hcells] at hu; simp at hu; rw [hu]; exact hmo) (by omega)
  rw [hcells] at hrun
  have hw : ∀ k, k ≠ bb → (w.setRow bb (splice cur.toList pos [mv]).toArray).heap[k]? = w.heap[k]? := fun k hne => setRow_other w bb k _ hne
  have hml : ms.length = rows.length * sz := e1.1
  have htk : (splice cur.toList pos [mv]).take (rows.length * sz) = splice ms pos [mv] := by
   rw [splice_take (by simpa using hpn) (by simpa using hcurn), htake]
  have hnx := change_next (o' := .nest e' sz rows (some (i, j, id'))) r.h hh rfl rfl hgv (.main rfl) (by simp) hw
  have hplt : i * sz + j < us.length := by rw [e5, hml, ← hpos]; omega
  have hget : ∀ q, (splice ms pos [mv])[q]? = if q = pos then some mv else ms[q]? := fun q => by
   rw [splice_get (by simp; omega)]
   by_cases hq : q = pos
   ·subst hq; simp
   ·rw [if_neg (by simp; omega), if_neg hq]
  unfold Oper.wp execOp
  rw [ho]
  simp only [q1, hmv, hadd, Sem.run_bind]
  have hrun' : (Instr.storeAt t (.pointer (some ⟨bb, pos, none⟩)) mv).run P w = .ok () (w.setRow bb (splice cur.toList pos [mv]).toArray) := hrun
  simp only [hrun', Result.andThen, Sem.run_pure, Oper.upon_skip]
  refine hk g .junk undef _ st.x _ ⟨rfl, rfl, rfl⟩ (r.h.change hh rfl rfl hgv (.main rfl) (by simp) hw rfl rfl rfl ?_) (.junk _) hnx (change_touch r.h hh rfl rfl hgv (.main rfl) hw)
  refine .nest e' sz rows _ _ (splice ms pos [mv]) us ⟨?_, .inr ⟨bb, cap, _, rfl, hb0, setRow_heap w bb cur _ e' _ hb, hnc, hcm, ?_, htk⟩⟩ e2 e3 ?_ ?_ (fun i' j' c hc => ?_) e7
  ·rw [splice_length (by simp; omega)]; exact hml
  ·rw [List.size_toArray, splice_length (by simp; omega)]; simpa using hcs
  ·intro q hq
   obtain ⟨k, hk⟩ := List.getElem?_of_mem hq
   rw [hget] at hk
   split at hk
   ·rw [← Option.some.inj hk]; exact hmo
   ·exact e4 q (List.mem_of_getElem? hk)
  ·rw [splice_length (by simp; omega)]; exact e5
  ·obtain ⟨m1, u1, hm1, hu1, hr1⟩ := e6 i' j' c hc
   obtain ⟨_, hj'⟩ := cell_lt e2 hc
   by_cases hii : i = i' ∧ j = j'
   ·obtain ⟨rfl, rfl⟩ := hii
    refine ⟨mv, u1, by rw [hget, if_pos hpos.symm], hu1, ?_⟩
    simp only [HoleRep, and_self, if_true]
    refine ⟨hnx.v hvx, ?_⟩
    rcases hfree with ⟨k, rfl⟩ | ⟨rfl, c', hc'⟩
    ·simp only [HoleRep, and_self, if_true] at hr1; exact hr1.2
    ·rw [hc] at hc'
     obtain rfl := Option.some.inj hc'
     exact hr1.2
   ·have hne : i' * sz + j' ≠ pos := fun e => hii (pos_inj hij.2 hj' (by rw [e, hpos]))
    refine ⟨m1, u1, by rw [hget, if_neg hne]; exact hm1, hu1, ?_⟩
    have hr2 : NRep (Rd cx.z st.h g w) w c m1 u1 := by
     rcases hfree with ⟨k, rfl⟩ | ⟨rfl, _⟩
     ·simp only [HoleRep, if_neg hii] at hr1; exact hr1
     ·exact hr1
    simp only [HoleRep, if_neg hii]
    refine hr2.move hnx.m.rd (fun k hk => hw k (fun e => ?_))
    subst e
    have := e7 0 (i' * sz + j' + 1) _ u1 k rfl (by rw [List.getElem?_cons_succ]; exact hu1) rfl hk
    omega
end
end Go.Proofs.Ytfjfbapiheehaaa.V
namespace Go.Proofs.Ytfjfbapiheehaaa.V
open Go Go.RowKit Go.Proofs.YtfjfbapiheehaaaW.PrintWords
section
variable {P : Program} {n : Nat} {cx : Cx} {Q : VExit → St → Prop} {s : List (Nat × V)} {h : Heap} {x : Nat} {c : Code} {m : List Nat} {ops : Array Oper} {K : St → Prop} {E : List PanicEntry → St → Prop} {k : Nat} {rest : List Oper}
theorem VCode.focus {id sz s' : Nat} {t e : TypeId} {rows : List (List N)} {ys : List (List D)} (i j : Nat) (hl : lk h id = some (.nest t sz rows none)) (hc : (rows[i]?).bind (·[j]?) = some (.own e s' ys))
  (H : VCode P n cx c Q ⟨renS (ρt id (x + 1)) s, tradeH [(x + 1, .nest t sz rows (some (i, j, x))), (x, .arr e s' ys)] [id] (ρt id (x + 1)) h, x + 2⟩) : VCode P n cx c Q ⟨s, h, x⟩ := fun g a w r =>
 let ⟨_, r'⟩ := r.focus hl hc; H _ a w r'
theorem VOps.focus {id sz s' : Nat} {t e : TypeId} {rows : List (List N)} {ys : List (List D)} (i j : Nat) (hl : lk h id = some (.nest t sz rows none)) (hc : (rows[i]?).bind (·[j]?) = some (.own e s' ys))
  (H : VOps P n cx 0 m ops K E k rest ⟨renS (ρt id (x + 1)) s, tradeH [(x + 1, .nest t sz rows (some (i, j, x))), (x, .arr e s' ys)] [id] (ρt id (x + 1)) h, x + 2⟩) : VOps P n cx 0 m ops K E k rest ⟨s, h, x⟩ := fun h1 h2 g a w r =>
 let ⟨_, r'⟩ := r.focus hl hc; H h1 h2 _ a w r'
theorem VCode.unfocus {id id' i j sz s' : Nat} {t e : TypeId} {rows rows' : List (List N)} {ys : List (List D)} (hl : lk h id = some (.nest t sz rows (some (i, j, id')))) (hl' : lk h id' = some (.arr e s' ys)) (hij : i < rows.length ∧ j < sz) (hr : putN rows i j (.own e s' ys) = rows')
  (H : VCode P n cx c Q ⟨renS (ρt id x) s, tradeH [(x, .nest t sz rows' none)] [id, id'] (ρt id x) h, x + 1⟩) : VCode P n cx c Q ⟨s, h, x⟩ := fun g a w r => by
 subst hr
 obtain ⟨_, r'⟩ := r.unfocus hl hl' hij
 exact H _ a w r'
theorem VOps.unfocus {id id' i j sz s' : Nat} {t e : TypeId} {rows rows' : List (List N)} {ys : List (List D)} (hl : lk h id = some (.nest t sz rows (some (i, j, id')))) (hl' : lk h id' = some (.arr e s' ys)) (hij : i < rows.length ∧ j < sz) (hr : putN rows i j (.own e s' ys) = rows')
  (H : VOps P n cx 0 m ops K E k rest ⟨renS (ρt id x) s, tradeH [(x, .nest t sz rows' none)] [id, id'] (ρt id x) h, x + 1⟩) : VOps P n cx 0 m ops K E k rest ⟨s, h, x⟩ := fun h1 h2 g a w r => by
 subst hr
 obtain ⟨_, r'⟩ := r.unfocus hl hl' hij
 exact H h1 h2 _ a w r'
theorem VCode.turn {id sz : Nat} {t : TypeId} {xs : List (List D)} {rows : List (List N)} (φ : List D → List N) (hl : lk h id = some (.arr t sz xs)) (hφ : ∀ row ∈ xs, ROk row (φ row)) (hr : xs.map φ = rows)
  (H : VCode P n cx c Q ⟨renS (ρt id x) s, tradeH [(x, .nest t sz rows none)] [id] (ρt id x) h, x + 1⟩) : VCode P n cx c Q ⟨s, h, x⟩ := fun g a w r => by
 subst hr
 obtain ⟨_, r'⟩ := r.turn φ hl hφ
 exact H _ a w r'
theorem VOps.turn {id sz : Nat} {t : TypeId} {xs : List (List D)} {rows : List (List N)} (φ : List D → List N) (hl : lk h id = some (.arr t sz xs)) (hφ : ∀ row ∈ xs, ROk row (φ row)) (hr : xs.map φ = rows)
  (H : VOps P n cx 0 m ops K E k rest ⟨renS (ρt id x) s, tradeH [(x, .nest t sz rows none)] [id] (ρt id x) h, x + 1⟩) : VOps P n cx 0 m ops K E k rest ⟨s, h, x⟩ := fun h1 h2 g a w r => by
 subst hr
 obtain ⟨_, r'⟩ := r.turn φ hl hφ
 exact H h1 h2 _ a w r'
theorem VCode.loose {id sz : Nat} {t : TypeId} {rows : List (List N)} {xs : List (List D)} (hl : lk h id = some (.nest t sz rows none)) (hr : (rows.map fun r => r.map N.toD) = xs)
  (H : VCode P n cx c Q ⟨renS (ρt id x) s, tradeH [(x, .arr t sz xs)] [id] (ρt id x) h, x + 1⟩) : VCode P n cx c Q ⟨s, h, x⟩ := fun g a w r => by
 subst hr
 obtain ⟨_, r'⟩ := r.loose hl
 exact H _ a w r'
end
section
variable {P : Program} {n : Nat} {cx : Cx} {ops : Array Oper} {K : St → Prop} {E : List PanicEntry → St → Prop} {i : Nat} {o : Oper} {rest : List Oper} {s : List (Nat × V)} {h : Heap} {x dd dr : Nat} {m : List Nat}
theorem VOps.store_nest {t e' : TypeId} {p y : Operand} {id id' pos k j sz : Nat} {rows : List (List N)} {hole : Option (Nat × Nat × Nat)} {d : TypeDesc} {b : Nat} {z : Value} (ho : o.op = .store t p y) (hw : wantedV ops o s = some true) (hs : okM dr ops i m [id] = true) (hd : o.dst = none) (hp : ev s p = some (.ael id pos)) (hx : ev s y = some (.ref id')) (hh : lk h id = some (.nest e' sz rows hole)) (hpos : pos = k * sz + j) (hij : k < rows.length ∧ j < sz)
  (hfree : (∃ q, hole = some (k, j, q)) ∨ (hole = none ∧ ∃ c, (rows[k]?).bind (·[j]?) = some (.dat c))) [ht : TI P t d 1 b z]
  (h2 : VOps P n cx (nxt dr) m ops K E (i + 1) rest ⟨s, (id, .nest e' sz rows (some (k, j, id'))) :: h, x⟩) : VOps P n cx dr m ops K E i (o :: rest) ⟨s, h, x⟩ := VOps.oo0 hw hs hd (VOp.store_nest ho hp hx hh hpos hij hfree) h2
theorem rows_map {α : Type} {f : α → List N} {l : List α} {i j : Nat} {u : α} {c : N} (h : l[i]? = some u) (hj : (f u)[j]? = some c) : (((l.map f)[i]?).bind (·[j]?)) = some c := by
 rw [List.getElem?_map, h]; exact hj
theorem putN_map {α : Type} {f : α → List N} {l : List α} {i j : Nat} {u u' : α} {c : N} (h : l[i]? = some u) (hj : (f u).set j c = f u') : putN (l.map f) i j c = (l.set i u').map f := by
 unfold putN
 apply List.ext_getElem?
 intro k
 rw [List.getElem?_modify, List.getElem?_map, List.getElem?_map, List.getElem?_set]
 by_cases hk : i = k
 ·subst hk
  have hlt := (List.getElem?_eq_some_iff.1 h).1
  have hu := (List.getElem?_eq_some_iff.1 h).2
  simp [h, hlt, hu, hj]
 ·simp [hk]
end
section
variable {P : Program} {n : Nat} {cx : Cx} {st : St} {o : Oper} {x y : Operand} {t t' e : TypeId}
end
end Go.Proofs.Ytfjfbapiheehaaa.V
namespace Go.Proofs.Ytfjfbapiheehaaa.V
open Go Go.Conc Go.RowKit Go.Proofs.Ytfjfbapiheehaaa.Comm Go.Proofs.YtfjfbapiheehaaaW.PrintWords
section
variable {P : Program} {n : Nat} {cx : Cx} {st : St} {o : Oper} {E : List PanicEntry → St → Prop}
end
end Go.Proofs.Ytfjfbapiheehaaa.V
namespace Go.Proofs.Ytfjfbapiheehaaa.V
open Go Go.Conc Go.RowKit Go.Proofs.Ytfjfbapiheehaaa.Comm Go.Proofs.YtfjfbapiheehaaaW.PrintWords
section
variable {P : Program} {n : Nat} {cx : Cx} {st : St} {o : Oper} {E : List PanicEntry → St → Prop}
theorem Rep.map {g : Nat → Value} {a : Act} {w : World} (r : Rep n cx g st a w) {id : Nat} {es : List (List D × List D)} (hh : lk st.h id = some (.map es)) :
  ∃ b ms cl, gvOf st.h g id = some (.map (some b)) ∧ w.heap[b]? = some (.map ms cl) ∧ ms.size = es.length ∧ (∀ (i : Nat) (e : List D × List D) (m : MapEntry), es[i]? = some e → ms[i]? = some m → cellRep (Rd cx.z st.h g w) e.1 m.key ∧ cellRep (Rd cx.z st.h g w) e.2 m.val) ∧ cl = ms.size ∧ ∀ (i : Nat) (m : MapEntry), ms[i]? = some m → m.born = i := by
 have hgv : gvOf st.h g id = some (g id) := by simp [gvOf, hh, O.live]
 obtain ⟨hlt, o', ho', hrep⟩ := r.h.obj _ _ hgv
 rw [hh] at ho'
 obtain rfl := Option.some.inj ho'
 generalize hx : g id = v at hrep hgv
 cases hrep with
 | map _ b ms cl e1 e2 e3 e4 => exact ⟨b, ms, cl, hgv, e1, e2, e3, e4⟩
theorem map_of {g : Nat → Value} {a : Act} {w : World} (r : Rep n cx g st a w) {c : Operand} {id b : Nat} (hc : ev st.s c = some (.ref id)) (hgv : gvOf st.h g id = some (.map (some b))) : a.eval c = .map (some b) := by
 have := ev_rep r hc
 generalize a.eval c = mm at this
 cases this with
 | ref _ _ _ _ h3 => exact h3 _ hgv
end
end Go.Proofs.Ytfjfbapiheehaaa.V
namespace Go.Proofs.Ytfjfbapiheehaaa.V
open Go Go.Conc Go.RowKit Go.Proofs.Ytfjfbapiheehaaa.Comm Go.Proofs.YtfjfbapiheehaaaW.PrintWords
section
variable {P : Program} {n : Nat} {cx : Cx} {ops : Array Oper} {K : St → Prop} {E : List PanicEntry → St → Prop} {i : Nat} {o : Oper} {rest : List Oper} {s : List (Nat × V)} {h : Heap} {x dd dr : Nat} {m : List Nat}
end
end Go.Proofs.Ytfjfbapiheehaaa.V
namespace Go.Proofs.Ytfjfbapiheehaaa.V
open Go Go.Conc Go.RowKit Go.Proofs.Ytfjfbapiheehaaa.Comm Go.Proofs.YtfjfbapiheehaaaW.PrintWords
section
variable {P : Program} {n : Nat} {cx : Cx} {Q : VExit → St → Prop} {s : List (Nat × V)} {h : Heap} {x : Nat} {c : Code}
theorem VCode.againA {id sz : Nat} {t : TypeId} {xs : List (List D)} (hl : lk h id = some (.arr t sz xs))
  (H : VCode P n cx c Q ⟨renS (ρt id x) s, tradeH [(x, .arr t sz xs)] [id] (ρt id x) h, x + 1⟩) : VCode P n cx c Q ⟨s, h, x⟩ := fun g a w r => by
 obtain ⟨v, ms, hgv, e1, e2, e3, e4, e5⟩ := r.arr hl
 refine H _ a w (r.trade1 (by simp) hgv rfl (.inl rfl) (fun b hb => ⟨id, by simp, _, hgv, hb⟩) (fun R' _ hrd => ?_))
 exact .arr t sz xs v ms e1 e2 e3 e4 (fun i j c hc => let ⟨m, h1, h2⟩ := e5 i j c hc; ⟨m, h1, h2.mono hrd⟩)
end
section
variable {P : Program} {n : Nat} {cx : Cx} {ops : Array Oper} {K : St → Prop} {E : List PanicEntry → St → Prop} {i : Nat} {o : Oper} {rest : List Oper} {s : List (Nat × V)} {h : Heap} {x dd dr : Nat} {m : List Nat}
end
section
variable {P : Program} {n : Nat} {cx : Cx} {ops : Array Oper} {K : St → Prop} {E : List PanicEntry → St → Prop} {i : Nat} {o : Oper} {dl pl pend q : List (Nat × Oper)} {m : List Nat} {s : List (Nat × V)} {h : Heap} {x dd : Nat}
theorem VOp.of_load {st : St} {v : V} (h : VLoad P n cx [] o st v) : VOp P n cx [] o (fun v' h' x' => v' = v ∧ h' = st.h ∧ x' = st.x) E st := fun g a w r Kc Q hk _ => by
 obtain ⟨mv, h1, h2⟩ := h g a w r
 unfold Oper.wp
 rw [h2 w (fun _ _ _ => rfl), Oper.upon_value]
 exact hk g _ _ _ _ w ⟨rfl, rfl, rfl⟩ r.h h1 (Next.refl _ _ _ _) ⟨fun _ _ _ => rfl, fun id u k hx h1 _ => absurd (r.h.obj _ _ h1).1 (by omega)⟩
theorem VMv.load {v : V} (he : cutAt i pend = some (o, dl, pl, q)) (hw : wantedV ops o s = some true) (hd : o.dst = some dd) (h1 : VLoad P n cx [] o ⟨s, h, x⟩ v) (h2 : VAny P n cx false m ops K E [] q ⟨(dd, v) :: s, h, x⟩) : VMv P n cx m ops K E pend i ⟨s, h, x⟩ :=
 VMv.oo he hw rfl hd (VOp.of_load h1) h2
theorem VMv.store_nest {t e' : TypeId} {p y : Operand} {id id' pos k j sz : Nat} {rows : List (List N)} {hole : Option (Nat × Nat × Nat)} {d : TypeDesc} {b : Nat} {z : Value} (he : cutAt i pend = some (o, dl, pl, q)) (ho : o.op = .store t p y) (hw : wantedV ops o s = some true) (hm : ([id].all fun k => m.contains k) = true) (hd : o.dst = none) (hp : ev s p = some (.ael id pos)) (hx : ev s y = some (.ref id')) (hh : lk h id = some (.nest e' sz rows hole)) (hpos : pos = k * sz + j) (hij : k < rows.length ∧ j < sz)
  (hfree : (∃ q, hole = some (k, j, q)) ∨ (hole = none ∧ ∃ c, (rows[k]?).bind (·[j]?) = some (.dat c))) [ht : TI P t d 1 b z]
  (h2 : VAny P n cx false m ops K E [] q ⟨s, (id, .nest e' sz rows (some (k, j, id'))) :: h, x⟩) : VMv P n cx m ops K E pend i ⟨s, h, x⟩ := VMv.oo0 he hw hm hd (VOp.store_nest ho hp hx hh hpos hij hfree) h2
theorem VMv.callL {y : Operand} {xs : Array Operand} {ts : Array TypeId} {f : FuncId} {fn : Func} {vs caps cargs : List V} {r r' : V} {ch h1 hh : Heap} {x1 xx : Nat} (l : List Nat) (he : cutAt i pend = some (o, dl, pl, q)) (ho : o.op = .call { callee := .value y, args := xs, argTypes := ts }) (hf : P.funcs[f]? = some fn) (hw : wantedV ops o s = some true) (hm : (l.all fun k => m.contains k) = true)
  (hb : fn.body.isSome = true) (hnm : (fn.name == "runtime.NumGoroutine") = false) (hx : ev s y = some (.fn f caps)) (hv : evs s xs.toList = some vs) (hch : SubH (nm l) l.length ch h) (hnd : l.Nodup) (hlt : (l.all fun i => Nat.blt i x) = true) (ha : vs ++ caps = V.renL (nm l) cargs) (hl : V.ltL l.length cargs = true)
  (hc : VCalls P f cargs ch l.length (Leaves r h1 x1)) (hr : r.ren (rn l x) = r') (hout : tidy (outH l x h1 h) = some hh) (hxx : x + (x1 - l.length) = xx)
  (h2 : VAny P n cx false m ops K E [] q ⟨putS o.dst r' s, hh, xx⟩) : VMv P n cx m ops K E pend i ⟨s, h, x⟩ := by
 rw [tidy_is] at hout
 obtain rfl := Option.some.inj hout
 refine VMv.mk (m' := l) he hm hw (VOp.call ho hf hb hnm hx hv ⟨hch, hnd, fun i hi => ?_⟩ ha hl hc (fun c h' x' hq => by cases hq.1)) ?_
 ·have := List.all_eq_true.1 hlt i hi
  simpa [Nat.blt_eq] using this
 ·rintro v h' x' ⟨out, ch', cx', ⟨e, rfl, rfl⟩, rfl, rfl, rfl⟩
  obtain rfl : out = r := by cases e; rfl
  rw [hr, hxx]; exact h2
end
end Go.Proofs.Ytfjfbapiheehaaa.V
namespace Go.Proofs.Ytfjfbapiheehaaa.V
open Go Go.RowKit
section
variable {P : Program} {n : Nat} {cx : Cx} {st : St} {o : Oper}
end
end Go.Proofs.Ytfjfbapiheehaaa.V
namespace Go.Proofs.Ytfjfbapiheehaaa.V
open Go Go.RowKit Go.Proofs.Ytfjfbapiheehaaa.Comm
def VW (P : Program) (n : Nat) (cx : Cx) (c : Code) (QM : Exit → Act → World → Prop) (st : St) : Prop := ∀ g a w, Rep n cx g st a w → c.wp P QM a w
def endOf (cx : Cx) (Q : VOut → Heap → Nat → Prop) (e : Ending) (w' : World) : Prop := ∃ g' h' x' out, HRep cx g' h' x' w' ∧ outRep (Rd cx.z h' g' w') (gvOf h' g') x' out e ∧ Q out h' x'
theorem endOf_dfs {cx : Cx} {ds : List Deferred} {Q : VOut → Heap → Nat → Prop} {e : Ending} {w' : World} (h : endOf { cx with dfs := ds } Q e w') : endOf cx Q e w' := by
 obtain ⟨g', h', x', out, k, k2, k3⟩ := h
 exact ⟨g', h', x', out, ⟨k.os, k.tape, k.output, k.size, k.old, k.obj, k.apart, k.mine, k.first, k.low, k.apz⟩, k2, k3⟩
theorem VCalls.enterW {P : Program} {f : FuncId} {fn : Func} {c : Code} {n : Nat} {args : List V} {h : Heap} {x : Nat} {Q : VOut → Heap → Nat → Prop} (hf : P.funcs[f]? = some fn) (hb : fn.body = some c) (hn : fn.ntmps = n) (ha : args.length ≤ n)
  (H : ∀ cx : Cx, cx.x = x → cx.dfs = [] → VW P n cx c (bodyPostD P fn (endOf cx Q)) ⟨argS 0 args, h, x⟩) : VCalls P f args h x Q := fun z g w ms h1 h2 h3 => by
 refine calls_of_wp_defers hf hb ?_
 have rep : Rep n (cxOf z g h x w) g ⟨argS 0 args, h, x⟩ { tmps := ms ++ Array.replicate (fn.ntmps - ms.size) undef, defers := [] } w := by
  refine ⟨h1, by simp [hn, h2]; omega, rfl, fun d v hd => ?_⟩
  obtain ⟨_, hd'⟩ := argS_lk _ _ _ _ hd
  rw [Nat.sub_zero] at hd'
  have hlt : d < ms.size := by rw [h2]; exact (List.getElem?_eq_some_iff.1 hd').1
  have : (ms ++ Array.replicate (fn.ntmps - ms.size) undef).getD d undef = ms[d] := by
   rw [Array.getD_eq_getD_getElem?, Array.getElem?_append_left hlt, Array.getElem?_eq_getElem hlt]; rfl
  rw [this]
  exact h3 d v _ hd' (Array.getElem?_eq_getElem hlt)
 exact H _ rfl rfl g _ w rep
section
variable {P : Program} {n : Nat} {cx : Cx} {QM : Exit → Act → World → Prop} {st : St}
theorem VW.seq {A B : Code} (h : VCode P n cx A (fun e st' => match e with
  | .normal => VW P n cx B QM st'
  | _ => False) st) : VW P n cx (.seq A B) QM st := fun g a w r => by
 refine wp_seq (Go.wp_mono (h g a w r) ?_)
 intro e a' w' hq
 cases e with
 | normal => obtain ⟨g', st', r', q⟩ := hq; exact q g' a' w' r'
 | exit id => obtain ⟨_, _, _, q⟩ := hq; exact q.elim
 | ret => obtain ⟨_, _, _, q⟩ := hq; exact q.elim
 | panic c => obtain ⟨_, _, _, _, q⟩ := hq; exact q.elim
 | goto l => exact hq.elim
 | outgrown => exact hq.elim
theorem VW.defer {id t : Nat} {f : FuncId} {cs : Array Operand} {ts : Array TypeId} {vs : List V} {o1 o2 : Oper} {B : Code} (h1 : o1.op = .makeFunc (.func f) #[] cs) (h1d : o1.dst = some t) (h1g : o1.guard = none) (h2 : o2.op = .defer { callee := .value (.tmp t), args := #[], argTypes := ts }) (h2d : o2.dst = none) (h2g : o2.guard = none) (ht : t < n) (hv : evs st.s cs.toList = some vs) (hcx : cx.dfs = [])
  (H : ∀ ms : Array Value, ms.size = vs.length → VW P n { cx with dfs := [{ target := .fn (.func f) ms, args := #[] }] } B QM ⟨(t, .fn f vs) :: st.s, st.h, st.x⟩) : VW P n cx (.seq (.region id #[o1, o2] false) B) QM st := fun g a w r => by
 obtain ⟨e1, e2⟩ := evs_get hv
 have hfn : VRep (Rd cx.z st.h g w) (gvOf st.h g) st.x (.fn f vs) (.func (.func f) #[] (cs.map a.eval)) := by
  refine .fn f vs _ ?_ (fun i c m hc hm => ?_)
  ·rw [Array.size_map, ← e1]; simp
  ·rw [Array.getElem?_map] at hm
   cases hx : cs[i]? with
   | none => rw [hx] at hm; cases hm
   | some y =>
    rw [hx] at hm
    obtain rfl := Option.some.inj hm
    exact ev_rep r (e2 i y c (by rw [Array.getElem?_toList]; exact hx) hc)
 have hput : (a.put (some t) (.func (.func f) #[] (cs.map a.eval))).eval (.tmp t) = .func (.func f) #[] (cs.map a.eval) := by
  have hs : t < a.tmps.size := by rw [r.size]; exact ht
  simp [Act.eval, Act.put, hs]
 have r1 := r.put ht (Next.refl _ _ _ _) r.h hfn
 refine wp_seq ?_
 refine region_of (Ops.of ?_)
 show wpOps P #[o1, o2] _ [0, 1] a w
 simp only [wpOps, List.getElem?_toArray, List.getElem?_cons_zero, List.getElem?_cons_succ, Region.wanted, h1g, h2g, if_true]
 left
 unfold Oper.wp
 have hr1 : (execOp a.eval o1).run P w = .ok (.value (.func (.func f) #[] (cs.map a.eval))) w := by
  unfold execOp; rw [h1]; simp [Instr.makeFunc]
 rw [hr1, Oper.upon_value, h1d]
 left
 have hr2 : (execOp (a.put (some t) (.func (.func f) #[] (cs.map a.eval))).eval o2).run P w = .ok (.defer { target := .fn (.func f) (cs.map a.eval), args := #[] }) w := by
  unfold execOp; rw [h2]
  simp [resolve, hput, Deferred.ofValue]
 rw [hr2, Oper.upon_defer, h2d]
 refine H (cs.map a.eval) (by rw [Array.size_map, ← e1]; simp) g _ w ?_
 have hd0 : (a.put (some t) (.func (.func f) #[] (cs.map a.eval))).defers = [] := r1.defers.trans hcx
 refine ⟨⟨r1.h.os, r1.h.tape, r1.h.output, r1.h.size, r1.h.old, r1.h.obj, r1.h.apart, r1.h.mine, r1.h.first, r1.h.low, r1.h.apz⟩, r1.size, ?_, r1.s⟩
 show _ :: (a.put (some t) (.func (.func f) #[] (cs.map a.eval))).defers = _
 rw [hd0]
theorem VW.idle {fn fd : Func} {f : FuncId} {ms : Array Value} {c : Code} {Q : VOut → Heap → Nat → Prop} (hf : P.funcs[f]? = some fd) (hb : fd.body.isSome = true) (hnm : (fd.name == "runtime.NumGoroutine") = false) (hdfs : cx.dfs = [{ target := .fn (.func f) ms, args := #[] }])
  (hidle : ∀ w : World, CallsD P f ms .returning w fun e u' w' => e = .returned (.tuple #[]) ∧ u' = .returning ∧ w' = w) (hQ : ∀ c h x, ¬ Q (.panic c) h x) (H : VCode P n cx c (retL P fn Q cx) st) : VW P n cx c (bodyPostD P fn (endOf cx Q)) st := fun g a w r => by
 have hinv : ∀ w' : World, (invoke (.fn (.func f) ms) #[]).run P w' = .ok (.enter f ms) w' := by
  intro w'
  have hbn : fd.body.isNone = false := by cases hbb : fd.body with
   | none => rw [hbb] at hb; cases hb
   | some _ => rfl
  have hnm' : ¬ (fd.name = "runtime.NumGoroutine") := by simpa using hnm
  simp [invoke, callFunc, hf, hbn, hnm']
  intro hh; rw [hh] at hb; cases hb
 have fin : ∀ {a' : Act} {w' : World} {g' : Nat → Value} {st' : St}, Rep n cx g' st' a' w' → Less cx (retPost P fn Q .ret) st' → Go.Leaves P fn a'.tmps (endOf cx Q) a'.defers .returning w' := by
  intro a' w' g' st' r' hL
  obtain ⟨l, st2, k1, k2, k3, vs, hv, hQ⟩ := hL
  have r2 := k1.rep k2 k3 r'
  obtain ⟨m, e1, e2⟩ := results_rep r2 hv
  rw [r'.defers, hdfs]
  refine leaves_cons (by simp) (hinv w') ((hidle w').mono ?_)
  rintro e u' w2 ⟨rfl, rfl, rfl⟩
  exact ⟨m, e1, _, st2.h, st2.x, .ret (oneV vs), r2.h, e2, hQ⟩
 refine Go.wp_mono (H g a w r) ?_
 intro e a' w' hq
 cases e with
 | normal => obtain ⟨g', st', r', hL⟩ := hq; exact fin r' hL
 | ret => obtain ⟨g', st', r', hL⟩ := hq; exact fin r' hL
 | panic c => obtain ⟨_, g', st', hh, hq⟩ := hq; exact (hQ _ _ _ hq).elim
 | exit id => obtain ⟨g', st', r', hq⟩ := hq; exact hq.elim
 | goto l => exact hq.elim
 | outgrown => exact hq.elim
end
end Go.Proofs.Ytfjfbapiheehaaa.V
namespace Go.Proofs.Ytfjfbapiheehaaa.V
open Go Go.RowKit Go.Proofs.Ytfjfbapiheehaaa.Comm
theorem add_zero' (a : Addr) : a.add 0 = a := by unfold Addr.add; simp
theorem map_add0 (A : Option Addr) : (A.map fun a => a.add 0) = A := by cases A <;> simp [add_zero']
section
variable {P : Program} {n : Nat} {cx : Cx} {st : St} {o : Oper} {E : List PanicEntry → St → Prop}
theorem ownsRow_take {w : World} {t : TypeId} {sz m : Nat} {A : Option Addr} {c j : Nat} {ms : List Value} (h : w.ownsRow 0 t sz (.slice A m c) m ms) (hj : j ≤ m) : w.ownsRow 0 t sz (.slice A j c) j (ms.take (j * sz)) := by
 obtain ⟨h1, h2⟩ := h
 have hle : j * sz ≤ m * sz := Nat.mul_le_mul_right _ hj
 refine ⟨by rw [List.length_take, h1]; omega, ?_⟩
 rcases h2 with ⟨h3, h4⟩ | ⟨bb, cap, cur, h3, h4, h5, h6, h7, h8, h9⟩
 ·injection h3 with a b c
  subst a; subst c
  have : j = 0 := by omega
  subst this
  exact .inl ⟨rfl, rfl⟩
 ·injection h3 with a b c
  subst a; subst c
  exact .inr ⟨bb, _, cur, rfl, h4, h5, by omega, h7, h8, by rw [← h9, List.take_take, Nat.min_eq_left hle]⟩
theorem VOp.cut_own {t e e' : TypeId} {x hi : Operand} {s b s' b' : Nat} {z z' : Value} {d' : TypeDesc} {k' : IntKind} {id j : Nat} {xs : List (List D)} (ho : o.op = .slice t x none (some hi) none) (hx : ev st.s x = some (.ref id)) (hh : lk st.h id = some (.arr e' s' xs)) (hj : ev st.s hi = some (.val (.int k' (j : Int)))) [ht : TI P t (.slice e) s b z] [he : TI P e d' s' b' z'] (h : j ≤ xs.length) :
  VOp P n cx [id] o (fun v' h' x' => v' = .ref st.x ∧ h' = (st.x, .arr e' s' (xs.take j)) :: (id, .dead) :: st.h ∧ x' = st.x + 1) E st := fun g a w r Kc Q hk _ => by
 obtain ⟨v0, ms, hgv, e1, e2, e3, e4, e5⟩ := r.arr hh
 have hpv := ev_rep r hx
 have hpe : a.eval x = v0 := by
  generalize a.eval x = mm at hpv
  cases hpv with
  | ref _ _ _ _ h3 => exact (h3 _ hgv).trans (ownsRow_hd e1)
 obtain ⟨A, c, hA, hAc⟩ : ∃ A c, v0 = .slice A xs.length c ∧ xs.length ≤ c := by
  rcases e1.2 with ⟨h1, h2⟩ | ⟨g', cap, cur, h1, _, _, h2, _⟩
  ·exact ⟨none, 0, by rw [h1, h2], by omega⟩
  ·exact ⟨_, cap, h1, h2⟩
 subst hA
 have hOld : OldAt st.h g (some id) (.slice A xs.length c) (Value.slice A xs.length c).ownBlock := ⟨hgv, fun k hk => .inl (blk_own hk)⟩
 have hgr : w.grownBy w (Value.slice A xs.length c).ownBlock := ⟨rfl, rfl, rfl, Nat.le_refl _, fun _ _ _ => rfl⟩
 have hv' : ∀ k, Blk (.slice A j c) k → w.heap.size ≤ k ∧ k < w.heap.size ∨ Blk (.slice A xs.length c) k := fun k hk => by
  have hk := hk.inv rfl
  refine .inr (.inl ?_)
  cases A <;> exact hk
 have hrun : (execOp a.eval o).run P w = .ok (.value (.slice A j c)) w := by
  have hb := run_bounds (P := P) r (isSlice := true) (len := xs.length) (cap := c) (lo := none) (hi := some hi) (l := 0) (h := (j : Int)) .none (.some hj) (Int.le_refl 0) (by omega) (by omega) w
  unfold execOp; rw [ho]; simp [hpe, Instr.sliceAt, Instr.slice, run_underlying ht.und, hb, he.run_size, map_add0]
  have hb' : (Instr.sliceBounds true xs.length c none (some (a.eval hi)) none).run P w = .ok (0, j, c) w := by simpa using hb
  simp [hb', map_add0]
 have nx := move_next (o' := .arr e' s' (xs.take j)) r.h hOld hgr rfl hv'
 have e1' := ownsRow_take e1 h
 have hrep : ORep (Rd cx.z ((st.x, .arr e' s' (xs.take j)) :: gone (some id) st.h) (setG g st.x (.slice A j c)) w) (gvOf ((st.x, .arr e' s' (xs.take j)) :: gone (some id) st.h) (setG g st.x (.slice A j c))) (st.x + 1) w (.arr e' s' (xs.take j)) (.slice A j c) := by
  refine .arr e' s' (xs.take j) _ (ms.take (j * s')) (by rw [List.length_take, Nat.min_eq_left h]; exact e1') (fun row hr => e2 row (List.mem_of_mem_take hr)) (by rw [List.length_take]; omega) (fun m hm => e4 m (List.mem_of_mem_take hm)) (fun i k d hd => ?_)
  rw [List.getElem?_take] at hd
  split at hd
  ·rename_i hi'
   obtain ⟨m, hm, hr⟩ := e5 i k d hd
   obtain ⟨row, q1, q2⟩ := Option.bind_eq_some_iff.1 hd
   have hk : k < s' := by have := (List.getElem?_eq_some_iff.1 q2).1; rw [e2 row (List.mem_of_getElem? q1)] at this; exact this
   refine ⟨m, ?_, hr.mono nx.m.rd⟩
   have : (i + 1) * s' ≤ j * s' := Nat.mul_le_mul_right _ hi'
   rw [Nat.add_mul, Nat.one_mul] at this
   rw [List.getElem?_take, if_pos (by omega)]; exact hm
  ·cases hd
 have hR := r.h.move (o' := .arr e' s' (xs.take j)) hOld hgr rfl hv' hrep
 unfold Oper.wp
 rw [hrun, Oper.upon_value]
 exact hk _ _ _ _ _ _ ⟨rfl, rfl, rfl⟩ hR (ref_new (gv_new rfl) rfl) nx (move_touch r.h hOld hgr rfl hv')
theorem VOps.cut_own {t e e' : TypeId} {y hi : Operand} {s : List (Nat × V)} {h : Heap} {x d : Nat} {sz b s' b' : Nat} {z z' : Value} {d' : TypeDesc} {k' : IntKind} {id j : Nat} {xs zs : List (List D)} {dr : Nat} {m : List Nat} {ops : Array Oper} {K : St → Prop} {i : Nat} {rest : List Oper} (hw : wantedV ops o s = some true) (hs : okM dr ops i m [id] = true) (hd : o.dst = some d) (ho : o.op = .slice t y none (some hi) none) (hx : ev s y = some (.ref id)) (hh : lk h id = some (.arr e' s' xs)) (hj : ev s hi = some (.val (.int k' (j : Int)))) [ht : TI P t (.slice e) sz b z] [he : TI P e d' s' b' z'] (hle : j ≤ xs.length) (hz : xs.take j = zs)
  (h2 : VOps P n cx (nxt dr) m ops K E (i + 1) rest ⟨(d, .ref x) :: s, (x, .arr e' s' zs) :: (id, .dead) :: h, x + 1⟩) : VOps P n cx dr m ops K E i (o :: rest) ⟨s, h, x⟩ := by
 subst hz
 exact VOps.oo hw hs hd (VOp.cut_own ho hx hh hj hle) h2
theorem zero_is (z : Array Value) (n : Nat) : Builtin.zeroCells z n = madeCells z (n * z.size) := rfl
theorem VOps.clear {o1 o2 : Oper} {t e e' : TypeId} {y lo : Operand} {s : List (Nat × V)} {h : Heap} {x d : Nat} {sz b s' b' : Nat} {z z' : Value} {d' : TypeDesc} {k' : IntKind} {id j : Nat} {xs zs : List (List D)} {m : List Nat} {ops : Array Oper} {K : St → Prop} {i : Nat} {rest : List Oper} (hw1 : wantedV ops o1 s = some true) (ho1 : o1.op = .slice t y (some lo) none none) (hd1 : o1.dst = some d) (hx : ev s y = some (.ref id)) (hh : lk h id = some (.arr e' s' xs)) (hj : ev s lo = some (.val (.int k' (j : Int))))
  (ho2 : o2.op = .call { callee := .builtin .clear, args := #[.tmp d], argTypes := #[t] }) (hg2 : o2.guard = none) (hd2 : o2.dst = none) [ht : TI P t (.slice e) sz b z] [he : TI P e d' s' b' z'] (hz : z'.cells.all Value.oneCell' = true) (hzs : z'.cells.size = s') (hs0 : 0 < s') (hle : j ≤ xs.length) (hzz : xs.take j ++ List.replicate (xs.length - j) (z'.cells.toList.map D.val) = zs)
  (h2 : VOps P n cx 0 m ops K E (i + 2) rest ⟨(d, .junk) :: s, (id, .arr e' s' zs) :: h, x⟩) : VOps P n cx 0 m ops K E i (o1 :: o2 :: rest) ⟨s, h, x⟩ := fun hn hr g a w r => by
 obtain ⟨hoi, hr'⟩ := VOps.tail hr
 obtain ⟨hoi2, hr''⟩ := VOps.tail hr'
 have hwant := wantedV_is r hn hw1
 have hdn : d < n := dstOk_lt hn i d (by rw [hoi]; exact hd1)
 obtain ⟨v0, ms, hgv, e1, e2, e3, e4, e5⟩ := r.arr hh
 have hpv := ev_rep r hx
 have hpe : a.eval y = v0 := by
  generalize a.eval y = mm at hpv
  cases hpv with
  | ref _ _ _ _ h3 => exact (h3 _ hgv).trans (ownsRow_hd e1)
 have hlo := (ev_rep r hj).val_inv
 obtain ⟨A, c, hA, hAc⟩ : ∃ A c, v0 = .slice A xs.length c ∧ xs.length ≤ c := by
  rcases e1.2 with ⟨h1, h2⟩ | ⟨g', cap, cur, h1, _, _, h2, _⟩
  ·exact ⟨none, 0, by rw [h1, h2], by omega⟩
  ·exact ⟨_, cap, h1, h2⟩
 subst hA
 generalize hv1 : (Value.slice (if c = j then A else A.map (·.add (j * s'))) (xs.length - j) (c - j)) = v1
 have hrun1 : (execOp a.eval o1).run P w = .ok (.value v1) w := by
  have hb := run_bounds (P := P) r (isSlice := true) (len := xs.length) (cap := c) (lo := some lo) (hi := none) (l := (j : Int)) (h := (xs.length : Int)) (.some hj) .none (by omega) (by omega) (by omega) w
  have hb' : (Instr.sliceBounds true xs.length c (some (a.eval lo)) none none).run P w = .ok (j, xs.length, c) w := by simpa using hb
  subst hv1
  unfold execOp; rw [ho1]; simp [hpe, Instr.sliceAt, Instr.slice, run_underlying ht.und, hb', he.run_size]
 have hput : (a.put (some d) v1).eval (.tmp d) = v1 := by
  have hs : d < a.tmps.size := by rw [r.size]; exact hdn
  simp [Act.eval, Act.put, hs]
 have r1 : Rep n cx g ⟨(d, .junk) :: s, h, x⟩ (a.put (some d) v1) w := r.put hdn (Next.refl _ _ _ _) r.h (.junk _)
 have key : ∃ w', (execOp (a.put (some d) v1).eval o2).run P w = .ok (.value (.tuple #[])) w' ∧ Rep n cx g ⟨(d, .junk) :: s, (id, .arr e' s' zs) :: h, x⟩ (a.put (some d) v1) w' := by
  have same : xs = zs → (execOp (a.put (some d) v1).eval o2).run P w = .ok (.value (.tuple #[])) w → ∃ w', (execOp (a.put (some d) v1).eval o2).run P w = .ok (.value (.tuple #[])) w' ∧ Rep n cx g ⟨(d, .junk) :: s, (id, .arr e' s' zs) :: h, x⟩ (a.put (some d) v1) w' := by
   rintro rfl hrun
   exact ⟨w, hrun, Rep.osays (o := .arr e' s' xs) r1 hh rfl rfl (fun k => k)⟩
  have hex : ∀ (w' : World), (Builtin.clear_ #[t] o2.type #[v1]).run P w = .ok (.tuple #[]) w' → (execOp (a.put (some d) v1).eval o2).run P w = .ok (.value (.tuple #[])) w' := by
   intro w' hc
   unfold execOp
   simp only [ho2, resolve, invoke, builtin, Sem.run_bind, Sem.run_pure, Result.andThen_ok, List.map_toArray, List.map_cons, List.map_nil, hput, hc]
  by_cases hje : xs.length - j = 0
  ·have hjj : j = xs.length := by omega
   refine same (by rw [← hzz, hjj, List.take_length, Nat.sub_self]; simp) (hex w ?_)
   subst hv1
   rw [hje]
   have : ∀ A' c', (Builtin.clear_ #[t] o2.type #[.slice A' 0 c']).run P w = .ok (.tuple #[]) w := by
    intro A' c'
    cases A' <;> simp [Builtin.clear_, run_underlying ht.und]
   exact this _ _
  ·rcases e1.2 with ⟨hn1, hn2⟩ | ⟨bb, cap, cur, hv, hb0, hb, hnc, hcm, hcs, htake⟩
   ·omega
   ·injection hv with q1 _ q3
    subst q1; subst q3
    have hcj : ¬ c = j := by omega
    rw [if_neg hcj] at hv1
    simp only [Option.map_some, addr0] at hv1
    have hzl : (Builtin.zeroCells z'.cells (xs.length - j)).toList.length = (xs.length - j) * s' := by
     rw [zero_is, Array.length_toList, size_madeCells, hzs]
    have hone : ∀ u ∈ (Builtin.zeroCells z'.cells (xs.length - j)).toList, u.oneCell' = true := by
     intro u hu
     rw [Array.mem_toList_iff, zero_is] at hu
     unfold madeCells at hu
     obtain ⟨q, _, rfl⟩ := Array.mem_map.1 hu
     have hlt : q % z'.cells.size < z'.cells.size := Nat.mod_lt _ (by omega)
     rw [getElem!_pos z'.cells _ hlt]
     exact Array.all_eq_true'.1 hz _ (Array.getElem_mem hlt)
    have hsum : j * s' + (xs.length - j) * s' = xs.length * s' := by rw [← Nat.add_mul]; congr 1; omega
    have hcurn : xs.length * s' ≤ cur.size := by rw [hcs]; exact Nat.mul_le_mul_right _ hnc
    have hst := run_storeCells_at P bb (j * s') e' (Builtin.zeroCells z'.cells (xs.length - j)).toList 0 cur w hb (by rw [hzl]; omega) hone
    simp only [Nat.add_zero] at hst
    generalize hW : w.setRow bb (splice cur.toList (j * s') (Builtin.zeroCells z'.cells (xs.length - j)).toList).toArray = w'
    have hst' : (storeCells ⟨bb, j * s', none⟩ (Builtin.zeroCells z'.cells (xs.length - j)).toList).run P w = .ok () w' := by
     rw [← hW]; simpa [splice] using hst
    have hw : ∀ k, k ≠ bb → w'.heap[k]? = w.heap[k]? := fun k hne => by rw [← hW]; exact setRow_other w bb k _ hne
    have hsize : w.heap.size ≤ w'.heap.size := by rw [← hW]; simp
    have hos : w'.os = w.os ∧ w'.tape = w.tape ∧ w'.output = w.output := by rw [← hW]; exact ⟨rfl, rfl, rfl⟩
    refine ⟨w', hex w' ?_, ?_⟩
    ·subst hv1
     obtain ⟨m', hm'⟩ : ∃ m', xs.length - j = m' + 1 := ⟨xs.length - j - 1, by omega⟩
     rw [hm'] at hst' ⊢
     simp [Builtin.clear_, run_underlying ht.und, he.run_zero, hst', Result.andThen]
    ·have hnx := change_next (o' := .arr e' s' zs) r1.h hh rfl rfl hgv (.inl rfl) hsize hw
     have hml : ms.length = xs.length * s' := e1.1
     have hzlen : zs.length = xs.length := by rw [← hzz]; simp; omega
     have htk : (splice cur.toList (j * s') (Builtin.zeroCells z'.cells (xs.length - j)).toList).take (xs.length * s') = splice ms (j * s') (Builtin.zeroCells z'.cells (xs.length - j)).toList := by
      rw [splice_take (by rw [hzl]; omega) (by simpa using hcurn), htake]
     have hHR : HRep cx g ((id, .arr e' s' zs) :: h) x w' := by
      refine r1.h.change hh rfl rfl hgv (.inl rfl) hsize hw hos.1 hos.2.1 hos.2.2 ?_
      refine .arr e' s' _ _ (splice ms (j * s') (Builtin.zeroCells z'.cells (xs.length - j)).toList) ⟨?_, .inr ⟨bb, c, (splice cur.toList (j * s') (Builtin.zeroCells z'.cells (xs.length - j)).toList).toArray, by rw [hzlen], hb0, by rw [← hW]; exact setRow_heap w bb cur _ e' _ hb, by rw [hzlen]; exact hnc, hcm, ?_, ?_⟩⟩ ?_ (by rw [hzlen]; exact e3) ?_ ?_
      ·rw [splice_length (by rw [hzl, hml]; omega), hml, hzlen]
      ·rw [List.size_toArray, splice_length (by rw [hzl]; simp; omega)]; simpa using hcs
      ·rw [hzlen]; simpa using htk
      ·intro row hr
       rw [← hzz] at hr
       rcases List.mem_append.1 hr with hr | hr
       ·exact e2 row (List.mem_of_mem_take hr)
       ·obtain rfl := List.eq_of_mem_replicate hr
        rw [List.length_map, Array.length_toList, hzs]
      ·intro u hu
       simp only [splice, List.mem_append] at hu
       rcases hu with (hu | hu) | hu
       ·exact e4 u (List.mem_of_mem_take hu)
       ·exact hone u hu
       ·exact e4 u (List.mem_of_mem_drop hu)
      ·intro i' k' dd hd
       obtain ⟨row, q1, q2⟩ := Option.bind_eq_some_iff.1 hd
       rw [splice_get (by rw [hzl, hml]; omega), hzl]
       rw [← hzz, List.getElem?_append, List.length_take, Nat.min_eq_left hle] at q1
       split at q1
       ·rename_i hlt
        rw [List.getElem?_take, if_pos hlt] at q1
        have hk : k' < s' := by have := (List.getElem?_eq_some_iff.1 q2).1; rw [e2 row (List.mem_of_getElem? q1)] at this; exact this
        have : (i' + 1) * s' ≤ j * s' := Nat.mul_le_mul_right _ hlt
        rw [Nat.add_mul, Nat.one_mul] at this
        rw [if_neg (by omega)]
        obtain ⟨u, hu, hd⟩ := e5 i' k' dd (by rw [q1]; exact q2)
        exact ⟨u, hu, hd.mono hnx.m.rd⟩
       ·rename_i hge
        rw [List.getElem?_replicate] at q1
        split at q1
        ·rename_i hlt
         obtain rfl := Option.some.inj q1
         rw [List.getElem?_map] at q2
         obtain ⟨u, q3, rfl⟩ := Option.map_eq_some_iff.1 q2
         have hk : k' < s' := by have := (List.getElem?_eq_some_iff.1 q3).1; simpa [hzs] using this
         have f1 : j * s' ≤ i' * s' := Nat.mul_le_mul_right _ (by omega)
         have f2 : (i' + 1) * s' ≤ xs.length * s' := Nat.mul_le_mul_right _ (by omega)
         rw [Nat.add_mul, Nat.one_mul] at f2
         rw [if_pos (by omega)]
         have f3 : i' * s' + k' - j * s' = (i' - j) * s' + k' := by rw [Nat.sub_mul]; omega
         rw [f3, zero_is, hzs, made_get hzs hs0 (by omega) hk]
         rw [Array.getElem?_toList] at q3
         exact ⟨u, q3, .val u (Array.all_eq_true'.1 hz _ (Array.mem_of_getElem? q3))⟩
        ·cases q1
     exact ⟨hHR, r1.size, r1.defers, fun q u hu => hnx.v (r1.s q u hu)⟩
 obtain ⟨w', hrun2, r2⟩ := key
 show Ops _ _ _ _ _ _
 have hf : List.range' i (o1 :: o2 :: rest).length = [i, i + 1] ++ List.range' (i + 2) rest.length := by
  rw [List.length_cons, List.length_cons, List.range'_succ, List.range'_succ]; rfl
 rw [hf]
 refine Ops.front _ _ a w ?_
 simp only [wpOps, hoi, hwant, if_true]
 left
 unfold Oper.wp
 rw [hrun1, Oper.upon_value, hd1]
 have hoi2' : ops[i + 1]? = some o2 := hoi2
 simp only [hoi2', Region.wanted, hg2, if_true]
 left
 rw [hrun2, Oper.upon_value, hd2]
 exact h2 hn (fun k => by have := hr'' k; rw [this]) g _ w' r2
end
end Go.Proofs.Ytfjfbapiheehaaa.V
namespace Go.Proofs.Ytfjfbapiheehaaa.V
open Go Go.RowKit Go.ChangeMaps
section
variable {P : Program} {n : Nat} {cx : Cx} {st : St} {o : Oper} {E : List PanicEntry → St → Prop}
theorem Rep.iter {g : Nat → Value} {a : Act} {w : World} (r : Rep n cx g st a w) {id mp k : Nat} {seen : List Nat} (hh : lk st.h id = some (.iter mp k seen)) :
  ∃ q b sn, gvOf st.h g id = some (.pointer (some ⟨q, 0, none⟩)) ∧ w.heap[q]? = some (.mapIter (some b) k sn k) ∧ sn.toList = seen ∧ VRep (Rd cx.z st.h g w) (gvOf st.h g) st.x (.ref mp) (.map (some b)) := by
 have hgv : gvOf st.h g id = some (g id) := by simp [gvOf, hh, O.live]
 obtain ⟨hlt, o', ho', hrep⟩ := r.h.obj _ _ hgv
 rw [hh] at ho'
 obtain rfl := Option.some.inj ho'
 generalize hx : g id = v at hrep hgv
 cases hrep with
 | iter _ _ _ q b sn e1 e2 e3 => exact ⟨q, b, sn, hgv, e1, e2, e3⟩
theorem iter_of {g : Nat → Value} {a : Act} {w : World} (r : Rep n cx g st a w) {c : Operand} {id q : Nat} (hc : ev st.s c = some (.ref id)) (hgv : gvOf st.h g id = some (.pointer (some ⟨q, 0, none⟩))) : a.eval c = .pointer (some ⟨q, 0, none⟩) := by
 have := ev_rep r hc
 generalize a.eval c = mm at this
 cases this with
 | ref _ _ _ _ h3 => exact h3 _ hgv
theorem ref_map {R : Addr → Value → Prop} {gv : Nat → Option Value} {x mp b : Nat} {v : Value} (h : VRep R gv x (.ref mp) (.map (some b))) (hv : gv mp = some v) (hm : ∃ b', v = .map (some b')) : v = .map (some b) := by
 obtain ⟨b', rfl⟩ := hm
 cases h with
 | ref _ _ _ _ h3 => exact (h3 _ hv).symm
theorem VOp.range {t k e : TypeId} {x : Operand} {mp : Nat} {es : List (List D × List D)} {s b : Nat} {z : Value} (ho : o.op = .range t x) (hx : ev st.s x = some (.ref mp)) (hh : lk st.h mp = some (.map es)) [ht : TI P t (.map k e) s b z] :
  VOp P n cx [] o (fun v' h' x' => v' = .ref st.x ∧ h' = (st.x, .iter mp es.length []) :: st.h ∧ x' = st.x + 1) E st := by
 refine VOp.of_new rfl (fun R gv u h1 h2 => ref_new h1 (by cases u <;> first | rfl | cases h2)) (fun g a w r => ?_)
 obtain ⟨bm, ms, cl, hgv, hb, hsz, hrep, hst⟩ := r.map hh
 have e1 := map_of r hx hgv
 have hcl : cl = es.length := hst.1.trans hsz
 refine ⟨.mapIter (some bm) cl #[] cl, .pointer (some ⟨w.heap.size, 0, none⟩), ?_, rfl, ?_⟩
 ·unfold execOp; rw [ho]; simp only [e1]
  rw [Sem.run_bind, run_range_map w t k e bm ms cl ht.und hb]; rfl
 ·subst hcl
  refine .iter mp _ [] w.heap.size bm #[] (heap_alloc_new w _) rfl ?_
  have hv := ev_rep r hx
  rw [e1] at hv
  exact (new_next r.h (.mapIter (some bm) es.length #[] es.length) (o := .iter mp es.length []) (v := .pointer (some ⟨w.heap.size, 0, none⟩)) rfl rfl).v hv
theorem VOp.next {x : Operand} {it mp : Nat} {seen : List Nat} {es : List (List D × List D)} (ho : o.op = .next x false) (hx : ev st.s x = some (.ref it)) (hi : lk st.h it = some (.iter mp es.length seen)) (hh : lk st.h mp = some (.map es)) :
  VOp P n cx [it] o (fun v' h' x' => x' = st.x ∧ ((v' = .tup [.val (.bool false)] ∧ h' = st.h ∧ ∀ i, i < es.length → i ∈ seen) ∨ ∃ i key val, es[i]? = some (key, val) ∧ i ∉ seen ∧ v' = .tup [.val (.bool true), cellV key, cellV val] ∧ h' = (it, .iter mp es.length (seen ++ [i])) :: st.h)) E st := fun g a w r Kc Q hk _ => by
 obtain ⟨q, b0, sn, hgi, hq, hsn, hmp⟩ := r.iter hi
 obtain ⟨b, ms, cl, hgv, hb, hsz, hrep, hcl, hborn⟩ := r.map hh
 have hbb : b0 = b := by
  have := ref_map hmp hgv ⟨b, rfl⟩
  cases this; rfl
 subst hbb
 have e1 := iter_of r hx hgi
 have hold : ∀ x ∈ ms.toList, x.born < es.length := fun x hx => by
  obtain ⟨i, hi⟩ := List.getElem?_of_mem hx
  rw [Array.getElem?_toList] at hi
  rw [hborn i x hi, ← hsz]
  exact (Array.getElem?_eq_some_iff.1 hi).1
 have hclock : cl = es.length := by omega
 unfold Oper.wp execOp
 rw [ho]
 simp only [e1]
 rcases run_next_at (P := P) w o.type q b0 es.length es.length sn ms cl hq hb hold (Nat.le_refl _) with ⟨h0, hrun⟩ | ⟨e, he, w1, hal, hrun⟩
 ·rw [Sem.run_bind, hrun]
  refine hk g (.tup [.val (.bool false)]) _ st.h st.x w ⟨rfl, .inl ⟨rfl, rfl, fun i hi' => ?_⟩⟩ r.h (.tup _ _ rfl (fun j c m hc hm => by
   match j, hc, hm with
   | 0, hc, hm => obtain rfl := Option.some.inj hc; obtain rfl := Option.some.inj hm; exact .val _ rfl
   | j + 1, hc, hm => cases hc)) (Next.refl _ _ _ _) ⟨fun _ _ _ => rfl, fun id v k hx hv hb => absurd (r.h.obj _ _ hv).1 (by omega)⟩
  have hms : ms[i]? = some ms[i] := Array.getElem?_eq_getElem (by omega)
  have := all_seen ms sn h0 ms[i] (by simp)
  rw [hborn i _ hms] at this
  rw [← hsn]
  simpa using this
 ·obtain ⟨hem, hes⟩ := mem_left he
  obtain ⟨i, hei⟩ := List.getElem?_of_mem hem
  rw [Array.getElem?_toList] at hei
  have hbi := hborn i e hei
  have hilt : i < es.length := by rw [← hsz]; exact (Array.getElem?_eq_some_iff.1 hei).1
  obtain ⟨kv, hkv⟩ : ∃ kv, es[i]? = some kv := ⟨_, List.getElem?_eq_getElem hilt⟩
  obtain ⟨key, val⟩ := kv
  have hr1 : w1.heap = w.heap ∧ w1.os = w.os ∧ w1.tape = w.tape ∧ w1.output = w.output := by rcases hal with rfl | rfl <;> exact ⟨rfl, rfl, rfl, rfl⟩
  have hq1 : w1.heap[q]? = some (.mapIter (some b0) es.length sn es.length) := by rw [hr1.1]; exact hq
  have hset := MapKept.heap_set (o' := .mapIter (some b0) es.length (sn.push e.born) cl) hq1
  generalize hW : setBlock w1 q (.mapIter (some b0) es.length (sn.push e.born) cl) = w2 at hrun
  have hw2 : w2.heap = (w1.heap.setIfInBounds q (.mapIter (some b0) es.length (sn.push e.born) cl)) := by rw [← hW]; rfl
  have hw : ∀ k, k ≠ q → w2.heap[k]? = w.heap[k]? := fun k hne => by
   rw [hw2, Array.getElem?_setIfInBounds_ne (Ne.symm hne), hr1.1]
  have hsize : w.heap.size ≤ w2.heap.size := by rw [hw2, hr1.1]; simp
  have hq2 : w2.heap[q]? = some (.mapIter (some b0) es.length (sn.push i) es.length) := by
   have hlt : q < w1.heap.size := (Array.getElem?_eq_some_iff.1 hq1).1
   rw [hw2, Array.getElem?_setIfInBounds_self_of_lt hlt, hbi, hclock]
  have hos : w2.os = w.os ∧ w2.tape = w.tape ∧ w2.output = w.output := by rw [← hW]; exact ⟨hr1.2.1, hr1.2.2.1, hr1.2.2.2⟩
  have nx := change_next (o' := .iter mp es.length (seen ++ [i])) r.h hi rfl rfl hgi (.inl rfl) hsize hw
  rw [Sem.run_bind, hrun]
  obtain ⟨ck, cv⟩ := hrep i _ e hkv hei
  refine hk g (.tup [.val (.bool true), cellV key, cellV val]) _ _ st.x w2 ⟨rfl, .inr ⟨i, key, val, hkv, ?_, rfl, rfl⟩⟩ (r.h.change hi rfl rfl hgi (.inl rfl) hsize hw hos.1 hos.2.1 hos.2.2 ?_) ?_ nx (change_touch r.h hi rfl rfl hgi (.inl rfl) hw)
  ·rw [← hsn]
   intro hin
   rw [hbi] at hes
   have : sn.contains i = true := by simpa using hin
   rw [this] at hes; cases hes
  ·refine .iter mp _ _ q b0 (sn.push i) hq2 (by simp [hsn]) (nx.v hmp)
  ·refine .tup _ _ rfl (fun j c m hc hm => ?_)
   match j, hc, hm with
   | 0, hc, hm => obtain rfl := Option.some.inj hc; obtain rfl := Option.some.inj hm; exact .val _ rfl
   | 1, hc, hm => obtain rfl := Option.some.inj hc; obtain rfl := Option.some.inj hm; exact cellRep_V (ck.mono nx.m.rd)
   | 2, hc, hm => obtain rfl := Option.some.inj hc; obtain rfl := Option.some.inj hm; exact cellRep_V (cv.mono nx.m.rd)
   | j + 3, hc, hm => cases hc
end
section
variable {P : Program} {n : Nat} {cx : Cx} {ops : Array Oper} {K : St → Prop} {E : List PanicEntry → St → Prop} {i dd : Nat} {o : Oper} {rest : List Oper} {s : List (Nat × V)} {h : Heap} {x : Nat} {m : List Nat}
theorem VOps.range {t k e : TypeId} {y : Operand} {mp : Nat} {es : List (List D × List D)} {sz b : Nat} {z : Value} (hw : wantedV ops o s = some true) (hd : o.dst = some dd) (ho : o.op = .range t y) (hx : ev s y = some (.ref mp)) (hh : lk h mp = some (.map es)) [ht : TI P t (.map k e) sz b z]
  (h2 : VOps P n cx 0 m ops K E (i + 1) rest ⟨(dd, .ref x) :: s, (x, .iter mp es.length []) :: h, x + 1⟩) : VOps P n cx 0 m ops K E i (o :: rest) ⟨s, h, x⟩ := VOps.oo hw rfl hd (VOp.range ho hx hh) h2
theorem VOps.next {y : Operand} {it mp k : Nat} {seen : List Nat} {es : List (List D × List D)} (hw : wantedV ops o s = some true) (hd : o.dst = some dd) (ho : o.op = .next y false) (hx : ev s y = some (.ref it)) (hi : lk h it = some (.iter mp k seen)) (hh : lk h mp = some (.map es)) (hk : k = es.length)
  (h1 : (∀ j, j < es.length → j ∈ seen) → VOps P n cx 0 m ops K E (i + 1) rest ⟨(dd, .tup [.val (.bool false)]) :: s, h, x⟩)
  (h2 : ∀ j key val, es[j]? = some (key, val) → j ∉ seen → VOps P n cx 0 m ops K E (i + 1) rest ⟨(dd, .tup [.val (.bool true), cellV key, cellV val]) :: s, (it, .iter mp k (seen ++ [j])) :: h, x⟩) : VOps P n cx 0 m ops K E i (o :: rest) ⟨s, h, x⟩ := by
 subst hk
 refine VOps.op hw rfl (VOp.next ho hx hi hh) ?_
 rintro v h' x' ⟨rfl, ⟨rfl, rfl, hall⟩ | ⟨j, key, val, hj, hn, rfl, rfl⟩⟩
 ·rw [hd]; exact h1 hall
 ·rw [hd]; exact h2 j key val hj hn
end
end Go.Proofs.Ytfjfbapiheehaaa.V
namespace Go.Proofs.Ytfjfbapiheehaaa.V
open Go Go.RowKit
section
variable {P : Program} {n : Nat} {cx : Cx} {Q : VExit → St → Prop} {s : List (Nat × V)} {h : Heap} {x : Nat}
theorem Rep.pin {g : Nat → Value} {a : Act} {w : World} (r : Rep n cx g ⟨s, h, x⟩ a w) {id i j sz s' : Nat} {t e : TypeId} {rows : List (List N)} {hole : Option (Nat × Nat × Nat)} {ys : List (List D)} (hl : lk h id = some (.nest t sz rows hole)) (hc : (rows[i]?).bind (·[j]?) = some (.own e s' ys)) (hne : ∀ k, hole ≠ some (i, j, k)) :
  ∃ v : Value, v.oneCell' = true ∧ Rep n cx g ⟨s, (id, .nest t sz (putN rows i j (.pin v e s' ys)) hole) :: h, x⟩ a w := by
 obtain ⟨v, ms, us, hgv, e1, e2, e3, e4, e5, e6, e7⟩ := r.nest hl
 obtain ⟨m, u, hm, hu, hr⟩ := e6 i j _ hc
 refine ⟨m, e4 m (List.mem_of_getElem? hm), r.osays hl rfl rfl (fun _ => ?_)⟩
 have hgi : g id = .agg (v :: us).toArray := by
  have hl : lk h id = some (.nest t sz rows hole) := hl
  have hgv : gvOf h g id = some (.agg (v :: us).toArray) := hgv
  unfold gvOf at hgv
  rw [hl] at hgv
  simpa [O.live] using hgv
 rw [hgi]
 refine .nest t sz _ hole v ms us (by rw [putN_length]; exact e1) (putN_row e2) (by rw [putN_length]; exact e3) e4 e5 (fun i' j' c hc' => ?_) e7
 rcases putN_get hc' with ⟨rfl, rfl, rfl, _⟩ | ⟨hij, hc'⟩
 ·refine ⟨m, u, hm, hu, ?_⟩
  match hole, hne, hr with
  | none, _, hr => exact ⟨hr, rfl⟩
  | some (a, b, k), hne, hr =>
   simp only [HoleRep] at hr ⊢
   have hab : ¬ (a = i' ∧ b = j') := by rintro ⟨rfl, rfl⟩; exact hne k rfl
   rw [if_neg hab] at hr ⊢
   exact ⟨hr, rfl⟩
 ·exact e6 i' j' c hc'
theorem VCode.pin {c : Code} {id sz s' : Nat} {t e : TypeId} {rows : List (List N)} {hole : Option (Nat × Nat × Nat)} {ys : List (List D)} (i j : Nat) (hl : lk h id = some (.nest t sz rows hole)) (hc : (rows[i]?).bind (·[j]?) = some (.own e s' ys)) (hne : ∀ k, hole ≠ some (i, j, k))
  (H : ∀ v : Value, v.oneCell' = true → VCode P n cx c Q ⟨s, (id, .nest t sz (putN rows i j (.pin v e s' ys)) hole) :: h, x⟩) : VCode P n cx c Q ⟨s, h, x⟩ := fun g a w r =>
 let ⟨v, hv, r'⟩ := r.pin hl hc hne; H v hv g a w r'
theorem VCode.unpin {c : Code} {id sz s' : Nat} {t e : TypeId} {v : Value} {rows rows' : List (List N)} {hole : Option (Nat × Nat × Nat)} {ys : List (List D)} (i j : Nat) (hl : lk h id = some (.nest t sz rows hole)) (hc : (rows[i]?).bind (·[j]?) = some (.pin v e s' ys)) (hr : putN rows i j (.own e s' ys) = rows')
  (H : VCode P n cx c Q ⟨s, (id, .nest t sz rows' hole) :: h, x⟩) : VCode P n cx c Q ⟨s, h, x⟩ := by
 subst hr
 refine VCode.osays id (.nest t sz (putN rows i j (.own e s' ys)) hole) hl rfl rfl (fun R gv y w u k => ?_) H
 cases k with
 | nest _ _ _ _ v ms us e1 e2 e3 e4 e5 e6 e7 =>
  refine .nest t sz _ hole v ms us (by rw [putN_length]; exact e1) (putN_row e2) (by rw [putN_length]; exact e3) e4 e5 (fun i' j' c hc' => ?_) e7
  rcases putN_get hc' with ⟨rfl, rfl, rfl, _⟩ | ⟨hij, hc'⟩
  ·obtain ⟨m, u, hm, hu, hr⟩ := e6 i' j' _ hc
   refine ⟨m, u, hm, hu, ?_⟩
   match hole, hr with
   | none, hr => exact hr.1
   | some (a, b, k), hr =>
    simp only [HoleRep] at hr ⊢
    by_cases hab : a = i' ∧ b = j'
    ·rw [if_pos hab] at hr ⊢; exact hr
    ·rw [if_neg hab] at hr ⊢; exact hr.1
  ·exact e6 i' j' c hc'
end
section
variable {P : Program} {n : Nat} {cx : Cx} {st : St} {o : Oper} {m : List Nat}
theorem VLoad.pin {v : Value} {id pos i j sz b s' : Nat} {t e e' : TypeId} {x : Operand} {d : TypeDesc} {s : Nat} {z : Value} {rows : List (List N)} {hole : Option (Nat × Nat × Nat)} {ys : List (List D)} (ho : o.op = .load t x) (hx : ev st.s x = some (.ael id pos)) (hh : lk st.h id = some (.nest e' sz rows hole)) (hp : pos = i * sz + j) (hc : (rows[i]?).bind (·[j]?) = some (.pin v e s' ys)) (hne : ∀ k, hole ≠ some (i, j, k)) [ht : TI P t d s b z] (hd : aggT d = false) (hm : id ∉ m) :
  VLoad P n cx m o st (.val v) := fun g a w r => by
 obtain ⟨vv, ms, us, hgv, e1, e2, e3, e4, e5, e6, e7⟩ := r.nest hh
 rcases e1.2 with ⟨rfl, h0'⟩ | ⟨bb, cap, cur, hv, _⟩
 ·rw [List.eq_nil_of_length_eq_zero h0'] at hc; simp at hc
 ·subst hv
  obtain ⟨u, u', hu, _, hr⟩ := e6 i j _ hc
  have hr : u = v := by
   match hole, hne, hr with
   | none, _, hr => exact hr.2
   | some (i', j', k), hne, hr =>
    simp only [HoleRep] at hr
    rw [if_neg (by rintro ⟨rfl, rfl⟩; exact hne k rfl)] at hr
    exact hr.2
  subst hr
  have ho1 := e4 u (List.mem_of_getElem? hu)
  rw [← hp] at hu
  obtain ⟨q1, _⟩ := ael_add r hx hgv
  refine ⟨u, .val u ho1, fun w' hw' => ?_⟩
  have hcell := nest_cell r hh hm hw' hgv e1 pos u hu
  unfold execOp; rw [ho]; simp only [q1]
  rw [Sem.run_bind, run_load1 ht.und hd hcell]; rfl
def elP (v : Value) (q : Nat) : Value := match v with
 | .slice (some a) _ _ => .pointer (some (a.add q))
 | _ => undef
theorem pin_at {g : Nat → Value} {a : Act} {w : World} (r : Rep n cx g st a w) {v : Value} {id i j sz s' : Nat} {e e' : TypeId} {rows : List (List N)} {hole : Option (Nat × Nat × Nat)} {ys : List (List D)} (hh : lk st.h id = some (.nest e' sz rows hole)) (hc : (rows[i]?).bind (·[j]?) = some (.pin v e s' ys)) (hne : ∀ k, hole ≠ some (i, j, k)) :
  InRep (Rd cx.z st.h g w) w e s' ys v ∧ ∃ gv, gvOf st.h g id = some gv ∧ ∀ k, blk v = some k → Blk gv k := by
 obtain ⟨vv, ms, us, hgv, e1, e2, e3, e4, e5, e6, e7⟩ := r.nest hh
 obtain ⟨u, u', hu, hu', hr⟩ := e6 i j _ hc
 have hr : (InRep (Rd cx.z st.h g w) w e s' ys u ∧ blk u' = blk u) ∧ u = v := by
  match hole, hne, hr with
  | none, _, hr => exact hr
  | some (i', j', k), hne, hr =>
   simp only [HoleRep] at hr
   rw [if_neg (by rintro ⟨rfl, rfl⟩; exact hne k rfl)] at hr
   exact hr
 obtain ⟨⟨h1, h2⟩, rfl⟩ := hr
 exact ⟨h1, _, hgv, fun k hk => .inner hu' (h2.trans hk)⟩
theorem VPure.idx_pin {v : Value} {id i j sz s s' b b' : Nat} {t e ee e' : TypeId} {z z' : Value} {d' : TypeDesc} {k : IntKind} {q : Int} {x y : Operand} {rows : List (List N)} {hole : Option (Nat × Nat × Nat)} {ys : List (List D)} (ho : o.op = .indexAddr t x y) (hx : ev st.s x = some (.val v)) (hy : ev st.s y = some (.val (.int k q))) (hh : lk st.h id = some (.nest e' sz rows hole)) (hc : (rows[i]?).bind (·[j]?) = some (.pin v ee s' ys)) (hne : ∀ k, hole ≠ some (i, j, k)) [ht : TI P t (.slice e) s b z] [he : TI P e d' s' b' z'] (h0 : 0 ≤ q) (h1 : q < ys.length) :
  VPure P n cx o st (.val (elP v (q.toNat * s'))) := fun g a w r => by
 have h2 := (ev_rep r hx).val_inv
 have h3 := (ev_rep r hy).val_inv
 obtain ⟨⟨⟨ks, k1, k2, k3⟩, k4, k5⟩, _⟩ := pin_at r hh hc hne
 rcases k1.2 with ⟨rfl, h0'⟩ | ⟨bb, cap, cur, rfl, _⟩
 ·omega
 ·refine ⟨_, .val _ rfl, fun w' => ?_⟩
  unfold execOp; rw [ho]; simp only [h2, h3]
  rw [Sem.run_bind, run_index_slice ht he h0 h1]; rfl
theorem VLoad.pin1 {v : Value} {id i j q p s s' b sz : Nat} {t ee e' : TypeId} {z : Value} {d : TypeDesc} {x : Operand} {rows : List (List N)} {hole : Option (Nat × Nat × Nat)} {ys : List (List D)} {c : D} (ho : o.op = .load t x) (hx : ev st.s x = some (.val (elP v (q * s' + p)))) (hh : lk st.h id = some (.nest e' sz rows hole)) (hc : (rows[i]?).bind (·[j]?) = some (.pin v ee s' ys)) (hne : ∀ k, hole ≠ some (i, j, k)) (hy : (ys[q]?).bind (·[p]?) = some c) [ht : TI P t d s b z] (hd : aggT d = false) (hm : id ∉ m) :
  VLoad P n cx m o st c.toV := fun g a w r => by
 have h1 := (ev_rep r hx).val_inv
 obtain ⟨⟨⟨ks, k1, k2, k3⟩, k4, k5⟩, gv, hgv, hblk⟩ := pin_at r hh hc hne
 rcases k1.2 with ⟨rfl, h0'⟩ | ⟨bb, cap, cur, rfl, _⟩
 ·rw [List.eq_nil_of_length_eq_zero h0'] at hy; simp at hy
 ·obtain ⟨u, hu, hr⟩ := k3 q p c hy
  refine ⟨u, .of_D hr, fun w' hw' => ?_⟩
  have hcell : w'.cell? ((⟨bb, 0, none⟩ : Addr).add (q * s' + p)) = some u := by
   have hc := k1.cells (g := bb) rfl (q * s' + p) u hu
   have hb : ((⟨bb, 0, none⟩ : Addr).add (q * s' + p)).block = bb := by unfold Addr.add; split <;> rfl
   have hlt := World.block_lt_of_cell? w _ hc
   rw [hb] at hlt
   refine (World.cell?_of_block (w := w) ?_).trans hc
   rw [hb]
   exact hw' bb hlt (fun id' hid v hv hbk => by
    have := r.h.apart _ _ _ _ _ hv hgv hbk (hblk bb rfl)
    subst this; exact hm hid)
  have h1 : a.eval x = .pointer (some ((⟨bb, 0, none⟩ : Addr).add (q * s' + p))) := h1
  unfold execOp; rw [ho]; simp only [h1]
  rw [Sem.run_bind, run_load1 ht.und hd hcell]; rfl
end
end Go.Proofs.Ytfjfbapiheehaaa.V
end
section
namespace Go.Proofs.Ytfjfbapiheehaaa.V
open Go Go.RowKit
variable {P : Program} {n : Nat} {cx : Cx} {ops : Array Oper} {K : St → Prop} {E : List PanicEntry → St → Prop} {i : Nat} {o : Oper} {rest : List Oper} {dr : Nat} {m : List Nat} {s : List (Nat × V)} {h : Heap} {x d : Nat} {v : V}
theorem VOps.vP (h1 : VPure P n cx o ⟨s, h, x⟩ v) (h2 : VOps P n cx dr m ops K E (i + 1) rest ⟨(d, v) :: s, h, x⟩) (hw : wantedV ops o s = some true := by rfl) (hs : okP dr ops i = true := by kernel_rfl) (hd : o.dst = some d := by rfl) : VOps P n cx dr m ops K E i (o :: rest) ⟨s, h, x⟩ := VOps.vp hw hs hd h1 h2
theorem VOps.vV (h1 : VLoad P n cx m o ⟨s, h, x⟩ v) (h2 : VOps P n cx dr m ops K E (i + 1) rest ⟨(d, v) :: s, h, x⟩) (hw : wantedV ops o s = some true := by rfl) (hs : okL dr ops i = true := by kernel_rfl) (hd : o.dst = some d := by rfl) : VOps P n cx dr m ops K E i (o :: rest) ⟨s, h, x⟩ := VOps.vv hw hs hd h1 h2
theorem ciI {a b : Int} (e : a = b) : some (V.val (Value.int IntKind.i64 a)) = some (V.val (Value.int IntKind.i64 b)) := congrArg (fun z => some (V.val (Value.int IntKind.i64 z))) e
theorem leR {a b : Nat} (h : Nat.ble a b = true) : a ≤ b := Nat.le_of_ble_eq_true h
theorem ciB {a b : Bool} (e : a = b) : some (V.val (Value.bool a)) = some (V.val (Value.bool b)) := congrArg (fun z => some (V.val (Value.bool z))) e
end Go.Proofs.Ytfjfbapiheehaaa.V
end
section
set_option linter.unusedVariables false
set_option linter.unusedSimpArgs false
namespace Go.Proofs.Ytfjfbapiheehaaa.V
open Go Go.RowKit
structure Ru where
 left : Int
 right : List Int
deriving DecidableEq
structure Gr where
 terms : List ByteArray
 names : List ByteArray
 rules : List Ru
abbrev Spot := Int × Int
def encS (s : ByteArray) : List D := [.val (.string s)]
def encI (n : Int) : List D := [.val (.int .i64 n)]
def encR (r : Ru) : List D := [.val (.int .i64 r.left), .sl 1 (r.right.map encI)]
def encP (p : Spot) : List D := [.val (.int .i64 p.1), .val (.int .i64 p.2)]
abbrev rV (r : Ru) : V := .agg [.val (.int .i64 r.left), .sl 1 (r.right.map encI)]
abbrev pV (p : Spot) : V := .agg [.val (.int .i64 p.1), .val (.int .i64 p.2)]
abbrev gC (g : Gr) : List V := [.sl 1 (g.terms.map encS), .sl 1 (g.names.map encS), .sl 2 (g.rules.map encR)]
abbrev gV (g : Gr) : V := .agg (gC g)
abbrev sV (l : List Spot) : V := .sl 2 (l.map encP)
def firstAt {α : Type} (p : α → Bool) (l : List α) : Int := match l.findIdx? p with
 | some i => (i : Int)
 | none => -1
theorem firstAt_some {α : Type} {p : α → Bool} {l : List α} {k : Nat} {x : α} (h : l[k]? = some x) (hp : p x = true) (hb : ∀ y ∈ l.take k, p y = false) : firstAt p l = (k : Int) := by
 have hlt := (List.getElem?_eq_some_iff.1 h).1
 have : l.findIdx? p = some k := by
  rw [List.findIdx?_eq_some_iff_getElem]
  refine ⟨hlt, ?_, fun j hj => ?_⟩
  ·have := (List.getElem?_eq_some_iff.1 h).2; rw [this]; exact hp
  ·have := hb l[j] (List.mem_take_iff_getElem.2 ⟨j, by omega, rfl⟩)
   simp [this]
 unfold firstAt; rw [this]
theorem firstAt_none {α : Type} {p : α → Bool} {l : List α} (hb : ∀ y ∈ l, p y = false) : firstAt p l = -1 := by
 have : l.findIdx? p = none := by rw [List.findIdx?_eq_none_iff]; exact hb
 unfold firstAt; rw [this]
theorem firstAt_ge {α : Type} (p : α → Bool) (l : List α) : decide (0 ≤ firstAt p l) = l.any p := by
 unfold firstAt
 cases h : l.findIdx? p with
 | some i =>
  have := List.findIdx?_isSome (xs := l) (p := p)
  rw [h] at this
  rw [← this]; simp
 | none =>
  have := List.findIdx?_isSome (xs := l) (p := p)
  rw [h] at this
  rw [← this]; simp
theorem take_no {α : Type} {l : List α} {k : Nat} {x : α} {p : α → Bool} (h : l[k]? = some x) (hb : ∀ y ∈ l.take k, p y = false) (hp : p x = false) : ∀ y ∈ l.take (k + 1), p y = false := fun y hy => by
 rw [List.take_add_one, h] at hy
 rcases List.mem_append.1 hy with h | h
 ·exact hb y h
 ·obtain rfl := List.mem_singleton.1 h
  exact hp
theorem take_all {α : Type} {l : List α} {k : Nat} {x : α} {p : α → Prop} (h : l[k]? = some x) (hb : ∀ y ∈ l.take k, p y) (hp : p x) : ∀ y ∈ l.take (k + 1), p y := fun y hy => by
 rw [List.take_add_one, h] at hy
 rcases List.mem_append.1 hy with h | h
 ·exact hb y h
 ·obtain rfl := List.mem_singleton.1 h
  exact hp
set_option maxHeartbeats 1000000 in
theorem idxS_v (l : List ByteArray) (x : ByteArray) (hl : l.length ≤ 1000000) : VCalls Try.prog 77 [.sl 1 (l.map encS), .val (.string x)] [] 0 (Gives (.val (.int .i64 (firstAt (fun y => decide (x = y)) l)))) := by
 refine VCalls.enter (n := 19) Try.func77 rfl rfl (by simp) (fun cx hcx => ?_)
 (repeat (first | ((with_reducible refine VOps.same ?_); (first | (refine VOps.nil ?_; try dsimp only [VThen, VBlock]) | refine VOps.vP (VPure.move rfl rfl) ?_ | refine VOps.vP (VPure.assign rfl rfl) ?_ | refine VOps.vP (VPure.len_map TI.und' rfl rfl) ?_)) | refine VCode.seq ?_ | refine VCode.region rfl ?_ | refine VCode.block ?_))
 refine VCode.loop (fun m st => ∃ k : Nat, k ≤ l.length ∧ m = l.length - k ∧ (∀ y ∈ l.take k, decide (x = y) = false) ∧ st = ⟨[(8, .val (.int .i64 (k : Int))), (7, .val (.int .i64 (l.length : Int))), (0, .sl 1 (l.map encS)), (1, .val (.string x))], [], 0⟩) l.length ?_ ?_
 ·(refine Less.mk (l := []) hcx ?ss ?hh rfl (by decide) rfl ⟨0, by omega, by omega, by simp, rfl⟩; (case ss => repeat (first | exact SubS.nil | refine SubS.cons rfl rfl ?_ | refine SubS.cons (ciI (by omega)) rfl ?_ | refine SubS.cons (ciB (by assumption)) rfl ?_)); (case hh => repeat (first | exact SubH.nil | refine SubH.cons rfl rfl rfl ?_)))
 rintro m st ⟨k, hk, rfl, hb, rfl⟩
 cases ht : l[k]? with
 | some y =>
  have hlt : k < l.length := (List.getElem?_eq_some_iff.1 ht).1
  (repeat (first | ((with_reducible refine VOps.same ?_); (first | (refine VOps.nil ?_; try dsimp only [VThen, VBlock]) | refine VOps.vP (VPure.lss rfl rfl rfl) ?_)) | refine VCode.seq ?_ | refine VCode.region rfl ?_))
  refine VCode.cond_t rfl (decide_eq_true (by omega)) ?_
  (repeat (first | ((with_reducible refine VOps.same ?_); (first | (refine VOps.nil ?_; try dsimp only [VThen, VBlock]) | refine VOps.vP (VPure.move rfl rfl) ?_ | refine VOps.vP (VPure.assign rfl rfl) ?_ | refine VOps.vP (VPure.idx_map rfl rfl rfl (by assumption)) ?_ | refine VOps.vV (VLoad.el1 rfl rfl rfl (by rfl)) ?_ | refine VOps.vP (VPure.eqs rfl rfl rfl) ?_)) | refine VCode.seq ?_ | refine VCode.region rfl ?_ | refine VCode.block ?_ | refine VCode.skip ?_))
  refine VCode.cond rfl (fun hp => ?_) (fun hp => ?_)
  ·(repeat (first | ((with_reducible refine VOps.same ?_); (first | (refine VOps.nil ?_; try dsimp only [VThen, VBlock]) | refine VOps.vP (VPure.move rfl rfl) ?_ | refine VOps.vP (VPure.assign rfl rfl) ?_)) | refine VCode.seq ?_ | refine VCode.region rfl ?_))
   refine VCode.give hcx rfl rfl rfl rfl rfl ?_
   rw [firstAt_some (p := fun y => decide (x = y)) ht hp hb]
  ·(repeat (first | ((with_reducible refine VOps.same ?_); (first | (refine VOps.nil ?_; try dsimp only [VThen, VBlock]) | refine VOps.vP (VPure.move rfl rfl) ?_ | refine VOps.vP (VPure.addK rfl rfl rfl (by omega)) ?_)) | refine VCode.region rfl ?_ | refine VCode.skip ?_))
   (refine Less.mk (l := []) hcx ?ss ?hh rfl (by decide) rfl ⟨_, ?_, k + 1, by omega, rfl, ?_, rfl⟩; (case ss => repeat (first | exact SubS.nil | refine SubS.cons rfl rfl ?_ | refine SubS.cons (ciI (by omega)) rfl ?_ | refine SubS.cons (ciB (by assumption)) rfl ?_)); (case hh => repeat (first | exact SubH.nil | refine SubH.cons rfl rfl rfl ?_)))
   ·omega
   ·exact take_no ht hb hp
 | none =>
  have hge : l.length ≤ k := List.getElem?_eq_none_iff.1 ht
  rw [List.take_of_length_le hge] at hb
  (repeat (first | ((with_reducible refine VOps.same ?_); (first | (refine VOps.nil ?_; try dsimp only [VThen, VBlock]) | refine VOps.vP (VPure.lss rfl rfl rfl) ?_)) | refine VCode.seq ?_ | refine VCode.region rfl ?_))
  refine VCode.cond_f rfl (decide_eq_false (by omega)) ?_
  (repeat (first | ((with_reducible refine VOps.same ?_); (first | (refine VOps.nil ?_; try dsimp only [VThen, VBlock]) | refine VOps.vP (VPure.assign rfl rfl) ?_)) | refine VCode.seq ?_ | refine VCode.region rfl ?_ | refine VCode.exit ?_))
  refine VCode.give hcx rfl rfl rfl rfl rfl ?_
  rw [firstAt_none (p := fun y => decide (x = y)) hb]
set_option maxHeartbeats 1000000 in
theorem contS_v (l : List ByteArray) (x : ByteArray) (hl : l.length ≤ 1000000) : VCalls Try.prog 76 [.sl 1 (l.map encS), .val (.string x)] [] 0 (Gives (.val (.bool (l.any fun y => decide (x = y))))) := by
 refine VCalls.enter (n := 9) Try.func76 rfl rfl (by simp) (fun cx hcx => ?_)
 (repeat (first | ((with_reducible refine VOps.same ?_); (first | (refine VOps.nil ?_; try dsimp only [VThen, VBlock]) | refine VOps.vP (VPure.move rfl rfl) ?_ | refine VOps.vP (VPure.assign rfl rfl) ?_)) | refine VCode.seq ?_ | refine VCode.region rfl ?_))
 refine VOps.pure rfl Try.func77 rfl (by kernel_rfl) rfl rfl rfl rfl rfl rfl rfl (idxS_v l x hl) ?_
 (repeat (first | ((with_reducible refine VOps.same ?_); (first | (refine VOps.nil ?_; try dsimp only [VThen, VBlock]) | refine VOps.vP (VPure.assign rfl rfl) ?_ | refine VOps.vP (VPure.geq rfl rfl rfl) ?_))))
 refine VCode.give hcx rfl rfl rfl rfl rfl ?_
 rw [firstAt_ge]
set_option maxHeartbeats 1000000 in
theorem at_v (l : List ByteArray) (x : ByteArray) (hl : l.length ≤ 1000000) : VCalls Try.prog 44 [.sl 1 (l.map encS), .val (.string x)] [] 0 (Gives (.val (.int .i64 (firstAt (fun y => decide (y = x)) l)))) := by
 refine VCalls.enter (n := 19) Try.func44 rfl rfl (by simp) (fun cx hcx => ?_)
 (repeat (first | ((with_reducible refine VOps.same ?_); (first | (refine VOps.nil ?_; try dsimp only [VThen, VBlock]) | refine VOps.vP (VPure.assign rfl rfl) ?_)) | refine VCode.seq ?_ | refine VCode.region rfl ?_ | refine VCode.block ?_))
 refine VCode.loop (fun m st => ∃ k : Nat, k ≤ l.length ∧ m = l.length - k ∧ (∀ y ∈ l.take k, decide (y = x) = false) ∧ st = ⟨[(5, .val (.int .i64 (k : Int))), (0, .sl 1 (l.map encS)), (1, .val (.string x))], [], 0⟩) l.length ?_ ?_
 ·(refine Less.mk (l := []) hcx ?ss ?hh rfl (by decide) rfl ⟨0, by omega, by omega, by simp, rfl⟩; (case ss => repeat (first | exact SubS.nil | refine SubS.cons rfl rfl ?_ | refine SubS.cons (ciI (by omega)) rfl ?_ | refine SubS.cons (ciB (by assumption)) rfl ?_)); (case hh => repeat (first | exact SubH.nil | refine SubH.cons rfl rfl rfl ?_)))
 rintro m st ⟨k, hk, rfl, hb, rfl⟩
 cases ht : l[k]? with
 | some y =>
  have hlt : k < l.length := (List.getElem?_eq_some_iff.1 ht).1
  (repeat (first | ((with_reducible refine VOps.same ?_); (first | (refine VOps.nil ?_; try dsimp only [VThen, VBlock]) | refine VOps.vP (VPure.move rfl rfl) ?_ | refine VOps.vP (VPure.len_map TI.und' rfl rfl) ?_ | refine VOps.vP (VPure.lss rfl rfl rfl) ?_)) | refine VCode.seq ?_ | refine VCode.region rfl ?_))
  refine VCode.cond_t rfl (decide_eq_true (by omega)) ?_
  (repeat (first | ((with_reducible refine VOps.same ?_); (first | (refine VOps.nil ?_; try dsimp only [VThen, VBlock]) | refine VOps.vP (VPure.move rfl rfl) ?_ | refine VOps.vP (VPure.idx_map rfl rfl rfl (by assumption)) ?_ | refine VOps.vV (VLoad.el1 rfl rfl rfl (by rfl)) ?_ | refine VOps.vP (VPure.eqs rfl rfl rfl) ?_)) | refine VCode.seq ?_ | refine VCode.region rfl ?_ | refine VCode.block ?_ | refine VCode.skip ?_))
  refine VCode.cond rfl (fun hp => ?_) (fun hp => ?_)
  ·(repeat (first | ((with_reducible refine VOps.same ?_); (first | (refine VOps.nil ?_; try dsimp only [VThen, VBlock]) | refine VOps.vP (VPure.move rfl rfl) ?_ | refine VOps.vP (VPure.assign rfl rfl) ?_)) | refine VCode.seq ?_ | refine VCode.region rfl ?_))
   refine VCode.give hcx rfl rfl rfl rfl rfl ?_
   rw [firstAt_some (p := fun y => decide (y = x)) ht hp hb]
  ·(repeat (first | ((with_reducible refine VOps.same ?_); (first | (refine VOps.nil ?_; try dsimp only [VThen, VBlock]) | refine VOps.vP (VPure.move rfl rfl) ?_ | refine VOps.vP (VPure.assign rfl rfl) ?_ | refine VOps.vP (VPure.addK rfl rfl rfl (by omega)) ?_)) | refine VCode.region rfl ?_ | refine VCode.skip ?_))
   (refine Less.mk (l := []) hcx ?ss ?hh rfl (by decide) rfl ⟨_, ?_, k + 1, by omega, rfl, ?_, rfl⟩; (case ss => repeat (first | exact SubS.nil | refine SubS.cons rfl rfl ?_ | refine SubS.cons (ciI (by omega)) rfl ?_ | refine SubS.cons (ciB (by assumption)) rfl ?_)); (case hh => repeat (first | exact SubH.nil | refine SubH.cons rfl rfl rfl ?_)))
   ·omega
   ·exact take_no ht hb hp
 | none =>
  have hge : l.length ≤ k := List.getElem?_eq_none_iff.1 ht
  rw [List.take_of_length_le hge] at hb
  (repeat (first | ((with_reducible refine VOps.same ?_); (first | (refine VOps.nil ?_; try dsimp only [VThen, VBlock]) | refine VOps.vP (VPure.move rfl rfl) ?_ | refine VOps.vP (VPure.len_map TI.und' rfl rfl) ?_ | refine VOps.vP (VPure.lss rfl rfl rfl) ?_)) | refine VCode.seq ?_ | refine VCode.region rfl ?_))
  refine VCode.cond_f rfl (decide_eq_false (by omega)) ?_
  (repeat (first | ((with_reducible refine VOps.same ?_); (first | (refine VOps.nil ?_; try dsimp only [VThen, VBlock]) | refine VOps.vP (VPure.assign rfl rfl) ?_)) | refine VCode.seq ?_ | refine VCode.region rfl ?_ | refine VCode.exit ?_))
  refine VCode.give hcx rfl rfl rfl rfl rfl ?_
  rw [firstAt_none (p := fun y => decide (y = x)) hb]
def spotEq (x y : Spot) : Bool := decide (x.1 = y.1) && (decide (x.2 = y.2) && true)
theorem spotEq_is (x y : Spot) : spotEq x y = decide (x = y) := by
 rw [Bool.eq_iff_iff]
 unfold spotEq
 simp [Prod.ext_iff]
theorem spotEq_comm (x y : Spot) : spotEq x y = spotEq y x := by
 rw [spotEq_is, spotEq_is, decide_eq_decide]; exact ⟨fun h => h.symm, fun h => h.symm⟩
def isIn (l : List Spot) (x : Spot) : Bool := l.any (spotEq x)
theorem isIn_iff (l : List Spot) (x : Spot) : isIn l x = true ↔ x ∈ l := by
 unfold isIn
 rw [List.any_eq_true]
 exact ⟨fun ⟨y, h, e⟩ => by rw [spotEq_is, decide_eq_true_eq] at e; subst e; exact h, fun h => ⟨x, h, by rw [spotEq_is]; simp⟩⟩
abbrev pO (p : Spot) : O := .cells 44 [.val (.int .i64 p.1), .val (.int .i64 p.2)]
set_option maxHeartbeats 1000000 in
theorem has_v (l : List Spot) (x : Spot) (hl : l.length ≤ 1000000) : VCalls Try.prog 28 [sV l, pV x] [] 0 (Gives (.val (.bool (isIn l x)))) := by
 refine VCalls.enterD (n := 18) Try.func28 rfl rfl (by simp) rfl (fun cx hcx => ?_)
 (repeat (first | ((with_reducible refine VOps.same ?_); (first | (refine VOps.nil ?_; try dsimp only [VThen, VBlock]) | refine VOps.vP (VPure.assign rfl rfl) ?_ | refine VOps.box rfl rfl (by kernel_rfl) rfl rfl rfl rfl ?_)) | refine VCode.seq ?_ | refine VCode.region rfl ?_ | refine VCode.block ?_))
 refine VCode.loop (fun m st => ∃ k : Nat, k ≤ l.length ∧ m = l.length - k ∧ (∀ y ∈ l.take k, spotEq x y = false) ∧ st = ⟨[(5, .val (.int .i64 (k : Int))), (0, sV l), (3, .ptr 0 0)], [(0, pO x)], 1⟩) l.length ?_ ?_
 ·(refine Less.mk (l := [0]) hcx ?ss ?hh rfl (by decide) rfl ⟨0, by omega, by omega, by simp, rfl⟩; (case ss => repeat (first | exact SubS.nil | refine SubS.cons rfl rfl ?_ | refine SubS.cons (ciI (by omega)) rfl ?_ | refine SubS.cons (ciB (by assumption)) rfl ?_)); (case hh => repeat (first | exact SubH.nil | refine SubH.cons rfl rfl rfl ?_)))
 rintro m st ⟨k, hk, rfl, hb, rfl⟩
 cases ht : l[k]? with
 | some y =>
  have hlt : k < l.length := (List.getElem?_eq_some_iff.1 ht).1
  (repeat (first | ((with_reducible refine VOps.same ?_); (first | (refine VOps.nil ?_; try dsimp only [VThen, VBlock]) | refine VOps.vP (VPure.move rfl rfl) ?_ | refine VOps.vP (VPure.len_map TI.und' rfl rfl) ?_ | refine VOps.vP (VPure.lss rfl rfl rfl) ?_)) | refine VCode.seq ?_ | refine VCode.region rfl ?_))
  refine VCode.cond_t rfl (decide_eq_true (by omega)) ?_
  (repeat (first | ((with_reducible refine VOps.same ?_); (first | (refine VOps.nil ?_; try dsimp only [VThen, VBlock]) | refine VOps.vP (VPure.move rfl rfl) ?_ | refine VOps.vP (VPure.idx_map rfl rfl rfl (by assumption)) ?_ | refine VOps.vV (VLoad.elA rfl rfl (by rfl) (leR (by rfl))) ?_ | refine VOps.vV (VLoad.boxA rfl rfl rfl (by rfl) (leR (by rfl)) (by decide)) ?_ | refine VOps.vP (VPure.eqA rfl rfl rfl (by rfl)) ?_)) | refine VCode.seq ?_ | refine VCode.draw [] rfl ?_ | refine VCode.block ?_ | refine VCode.skip ?_))
  refine VCode.cond rfl (fun hp => ?_) (fun hp => ?_)
  ·(repeat (first | ((with_reducible refine VOps.same ?_); (first | (refine VOps.nil ?_; try dsimp only [VThen, VBlock]) | refine VOps.vP (VPure.assign rfl rfl) ?_)) | refine VCode.seq ?_ | refine VCode.region rfl ?_))
   refine VCode.retD rfl rfl (.tmp rfl .nil) ?_
   have : isIn l x = true := List.any_eq_true.2 ⟨y, List.mem_of_getElem? ht, by rw [spotEq_comm]; exact hp⟩
   rw [this]; rfl
  ·(repeat (first | ((with_reducible refine VOps.same ?_); (first | (refine VOps.nil ?_; try dsimp only [VThen, VBlock]) | refine VOps.vP (VPure.move rfl rfl) ?_ | refine VOps.vP (VPure.assign rfl rfl) ?_ | refine VOps.vP (VPure.addK rfl rfl rfl (by omega)) ?_)) | refine VCode.region rfl ?_ | refine VCode.skip ?_))
   (refine Less.mk (l := [0]) hcx ?ss ?hh rfl (by decide) rfl ⟨_, ?_, k + 1, by omega, rfl, ?_, rfl⟩; (case ss => repeat (first | exact SubS.nil | refine SubS.cons rfl rfl ?_ | refine SubS.cons (ciI (by omega)) rfl ?_ | refine SubS.cons (ciB (by assumption)) rfl ?_)); (case hh => repeat (first | exact SubH.nil | refine SubH.cons rfl rfl rfl ?_)))
   ·omega
   ·exact take_no ht hb (by rw [spotEq_comm]; exact hp)
 | none =>
  have hge : l.length ≤ k := List.getElem?_eq_none_iff.1 ht
  rw [List.take_of_length_le hge] at hb
  (repeat (first | ((with_reducible refine VOps.same ?_); (first | (refine VOps.nil ?_; try dsimp only [VThen, VBlock]) | refine VOps.vP (VPure.move rfl rfl) ?_ | refine VOps.vP (VPure.len_map TI.und' rfl rfl) ?_ | refine VOps.vP (VPure.lss rfl rfl rfl) ?_)) | refine VCode.seq ?_ | refine VCode.region rfl ?_))
  refine VCode.cond_f rfl (decide_eq_false (by omega)) ?_
  (repeat (first | ((with_reducible refine VOps.same ?_); (first | (refine VOps.nil ?_; try dsimp only [VThen, VBlock]) | refine VOps.vP (VPure.assign rfl rfl) ?_)) | refine VCode.seq ?_ | refine VCode.region rfl ?_ | refine VCode.exit ?_))
  refine VCode.retD rfl rfl (.tmp rfl .nil) ?_
  have : isIn l x = false := List.any_eq_false.2 (fun y hy => by rw [hb y hy]; simp)
  rw [this]; rfl
set_option maxHeartbeats 1000000 in
theorem idxP_v (l : List Spot) (x : Spot) (hl : l.length ≤ 1000000) : VCalls Try.prog 87 [sV l, pV x] [] 0 (Gives (.val (.int .i64 (firstAt (spotEq x) l)))) := by
 refine VCalls.enterD (n := 19) Try.func87 rfl rfl (by simp) rfl (fun cx hcx => ?_)
 (repeat (first | ((with_reducible refine VOps.same ?_); (first | (refine VOps.nil ?_; try dsimp only [VThen, VBlock]) | refine VOps.vP (VPure.move rfl rfl) ?_ | refine VOps.vP (VPure.assign rfl rfl) ?_ | refine VOps.vP (VPure.len_map TI.und' rfl rfl) ?_ | refine VOps.box rfl rfl (by kernel_rfl) rfl rfl rfl rfl ?_)) | refine VCode.seq ?_ | refine VCode.region rfl ?_ | refine VCode.block ?_))
 refine VCode.loop (fun m st => ∃ k : Nat, k ≤ l.length ∧ m = l.length - k ∧ (∀ y ∈ l.take k, spotEq x y = false) ∧ st = ⟨[(8, .val (.int .i64 (k : Int))), (7, .val (.int .i64 (l.length : Int))), (0, sV l), (3, .ptr 0 0)], [(0, pO x)], 1⟩) l.length ?_ ?_
 ·(refine Less.mk (l := [0]) hcx ?ss ?hh rfl (by decide) rfl ⟨0, by omega, by omega, by simp, rfl⟩; (case ss => repeat (first | exact SubS.nil | refine SubS.cons rfl rfl ?_ | refine SubS.cons (ciI (by omega)) rfl ?_ | refine SubS.cons (ciB (by assumption)) rfl ?_)); (case hh => repeat (first | exact SubH.nil | refine SubH.cons rfl rfl rfl ?_)))
 rintro m st ⟨k, hk, rfl, hb, rfl⟩
 cases ht : l[k]? with
 | some y =>
  have hlt : k < l.length := (List.getElem?_eq_some_iff.1 ht).1
  (repeat (first | ((with_reducible refine VOps.same ?_); (first | (refine VOps.nil ?_; try dsimp only [VThen, VBlock]) | refine VOps.vP (VPure.lss rfl rfl rfl) ?_)) | refine VCode.seq ?_ | refine VCode.region rfl ?_))
  refine VCode.cond_t rfl (decide_eq_true (by omega)) ?_
  (repeat (first | ((with_reducible refine VOps.same ?_); (first | (refine VOps.nil ?_; try dsimp only [VThen, VBlock]) | refine VOps.vP (VPure.move rfl rfl) ?_ | refine VOps.vP (VPure.assign rfl rfl) ?_ | refine VOps.vP (VPure.idx_map rfl rfl rfl (by assumption)) ?_ | refine VOps.vV (VLoad.elA rfl rfl (by rfl) (leR (by rfl))) ?_ | refine VOps.vV (VLoad.boxA rfl rfl rfl (by rfl) (leR (by rfl)) (by decide)) ?_ | refine VOps.vP (VPure.eqA rfl rfl rfl (by rfl)) ?_)) | refine VCode.seq ?_ | refine VCode.region rfl ?_ | refine VCode.draw [] rfl ?_ | refine VCode.block ?_ | refine VCode.skip ?_))
  refine VCode.cond rfl (fun hp => ?_) (fun hp => ?_)
  ·(repeat (first | ((with_reducible refine VOps.same ?_); (first | (refine VOps.nil ?_; try dsimp only [VThen, VBlock]) | refine VOps.vP (VPure.move rfl rfl) ?_ | refine VOps.vP (VPure.assign rfl rfl) ?_)) | refine VCode.seq ?_ | refine VCode.region rfl ?_))
   refine VCode.retD rfl rfl (.tmp rfl .nil) ?_
   rw [firstAt_some (p := spotEq x) ht hp hb]; rfl
  ·(repeat (first | ((with_reducible refine VOps.same ?_); (first | (refine VOps.nil ?_; try dsimp only [VThen, VBlock]) | refine VOps.vP (VPure.move rfl rfl) ?_ | refine VOps.vP (VPure.addK rfl rfl rfl (by omega)) ?_)) | refine VCode.region rfl ?_ | refine VCode.skip ?_))
   (refine Less.mk (l := [0]) hcx ?ss ?hh rfl (by decide) rfl ⟨_, ?_, k + 1, by omega, rfl, ?_, rfl⟩; (case ss => repeat (first | exact SubS.nil | refine SubS.cons rfl rfl ?_ | refine SubS.cons (ciI (by omega)) rfl ?_ | refine SubS.cons (ciB (by assumption)) rfl ?_)); (case hh => repeat (first | exact SubH.nil | refine SubH.cons rfl rfl rfl ?_)))
   ·omega
   ·exact take_no ht hb hp
 | none =>
  have hge : l.length ≤ k := List.getElem?_eq_none_iff.1 ht
  rw [List.take_of_length_le hge] at hb
  (repeat (first | ((with_reducible refine VOps.same ?_); (first | (refine VOps.nil ?_; try dsimp only [VThen, VBlock]) | refine VOps.vP (VPure.lss rfl rfl rfl) ?_)) | refine VCode.seq ?_ | refine VCode.region rfl ?_))
  refine VCode.cond_f rfl (decide_eq_false (by omega)) ?_
  (repeat (first | ((with_reducible refine VOps.same ?_); (first | (refine VOps.nil ?_; try dsimp only [VThen, VBlock]) | refine VOps.vP (VPure.assign rfl rfl) ?_)) | refine VCode.seq ?_ | refine VCode.region rfl ?_ | refine VCode.exit ?_))
  refine VCode.retD rfl rfl (.tmp rfl .nil) ?_
  rw [firstAt_none (p := spotEq x) hb]; rfl
set_option maxHeartbeats 1000000 in
theorem contP_v (l : List Spot) (x : Spot) (hl : l.length ≤ 1000000) : VCalls Try.prog 65 [sV l, pV x] [] 0 (Gives (.val (.bool (isIn l x)))) := by
 refine VCalls.enterD (n := 9) Try.func65 rfl rfl (by simp) rfl (fun cx hcx => ?_)
 (repeat (first | ((with_reducible refine VOps.same ?_); (first | (refine VOps.nil ?_; try dsimp only [VThen, VBlock]) | refine VOps.vP (VPure.move rfl rfl) ?_ | refine VOps.vP (VPure.assign rfl rfl) ?_ | refine VOps.vV (VLoad.boxA rfl rfl rfl (by rfl) (leR (by rfl)) (by decide)) ?_ | refine VOps.box rfl rfl (by kernel_rfl) rfl rfl rfl rfl ?_)) | refine VCode.seq ?_ | refine VCode.region rfl ?_))
 refine VOps.pure rfl Try.func87 rfl (by kernel_rfl) rfl rfl rfl rfl rfl rfl rfl (idxP_v l x hl) ?_
 (repeat (first | ((with_reducible refine VOps.same ?_); (first | (refine VOps.nil ?_; try dsimp only [VThen, VBlock]) | refine VOps.vP (VPure.assign rfl rfl) ?_ | refine VOps.vP (VPure.geq rfl rfl rfl) ?_))))
 refine VCode.retD rfl rfl (.tmp rfl .nil) ?_
 exact congrArg (fun b => V.val (.bool b)) (firstAt_ge _ _)
end Go.Proofs.Ytfjfbapiheehaaa.V
end
section
set_option linter.unusedVariables false
set_option linter.unusedSimpArgs false
namespace Go.Proofs.Ytfjfbapiheehaaa.V
open Go Go.RowKit
theorem take_eq {α : Type} {a b : List α} {k : Nat} {x y : α} (h : a.take k = b.take k) (hx : a[k]? = some x) (hy : b[k]? = some y) (e : x = y) : a.take (k + 1) = b.take (k + 1) := by
 rw [List.take_add_one, List.take_add_one, h, hx, hy, e]
set_option maxHeartbeats 1000000 in
theorem equal_v (a b : List Int) (ha : a.length ≤ 1000000) : VCalls Try.prog 93 [.sl 1 (a.map encI), .sl 1 (b.map encI)] [] 0 (Gives (.val (.bool (decide (a = b))))) := by
 refine VCalls.enter (n := 26) Try.func93 rfl rfl (by simp) (fun cx hcx => ?_)
 (repeat (first | ((with_reducible refine VOps.same ?_); (first | (refine VOps.nil ?_; try dsimp only [VThen, VBlock]) | refine VOps.vP (VPure.move rfl rfl) ?_ | refine VOps.vP (VPure.assign rfl rfl) ?_ | refine VOps.vP (VPure.len_map TI.und' rfl rfl) ?_ | refine VOps.vP (VPure.nei rfl rfl rfl) ?_)) | refine VCode.seq ?_ | refine VCode.region rfl ?_))
 refine VCode.cond rfl (fun hc => ?_) (fun hc => ?_)
 ·(repeat (first | ((with_reducible refine VOps.same ?_); (first | (refine VOps.nil ?_; try dsimp only [VThen, VBlock]) | refine VOps.vP (VPure.assign rfl rfl) ?_)) | refine VCode.seq ?_ | refine VCode.region rfl ?_))
  refine VCode.give hcx rfl rfl rfl rfl rfl ?_
  simp only [Bool.not_eq_true', decide_eq_false_iff_not] at hc
  have : decide (a = b) = false := decide_eq_false (fun h => hc (by rw [h]))
  rw [this]
 ·simp only [Bool.not_eq_false', decide_eq_true_eq] at hc
  have hlen : a.length = b.length := by omega
  (repeat (first | ((with_reducible refine VOps.same ?_); (first | (refine VOps.nil ?_; try dsimp only [VThen, VBlock]) | refine VOps.vP (VPure.move rfl rfl) ?_ | refine VOps.vP (VPure.len_map TI.und' rfl rfl) ?_)) | refine VCode.seq ?_ | refine VCode.region rfl ?_ | refine VCode.block ?_ | refine VCode.skip ?_))
  refine VCode.loop (fun m st => ∃ k : Nat, k ≤ a.length ∧ m = a.length - k ∧ a.take k = b.take k ∧ st = ⟨[(13, .val (.int .i64 (k : Int))), (12, .val (.int .i64 (a.length : Int))), (0, .sl 1 (a.map encI)), (1, .sl 1 (b.map encI))], [], 0⟩) a.length ?_ ?_
  ·(refine Less.mk (l := []) hcx ?ss ?hh rfl (by decide) rfl ⟨0, by omega, by omega, by simp, rfl⟩; (case ss => repeat (first | exact SubS.nil | refine SubS.cons rfl rfl ?_ | refine SubS.cons (ciI (by omega)) rfl ?_ | refine SubS.cons (ciB (by assumption)) rfl ?_)); (case hh => repeat (first | exact SubH.nil | refine SubH.cons rfl rfl rfl ?_)))
  rintro m st ⟨k, hk, rfl, hs, rfl⟩
  cases ht : a[k]? with
  | some t =>
   have hlt : k < a.length := (List.getElem?_eq_some_iff.1 ht).1
   obtain ⟨u, hu⟩ : ∃ u, b[k]? = some u := ⟨_, List.getElem?_eq_getElem (by omega)⟩
   (repeat (first | ((with_reducible refine VOps.same ?_); (first | (refine VOps.nil ?_; try dsimp only [VThen, VBlock]) | refine VOps.vP (VPure.lss rfl rfl rfl) ?_)) | refine VCode.seq ?_ | refine VCode.region rfl ?_))
   refine VCode.cond_t rfl (decide_eq_true (by omega)) ?_
   (repeat (first | ((with_reducible refine VOps.same ?_); (first | (refine VOps.nil ?_; try dsimp only [VThen, VBlock]) | refine VOps.vP (VPure.move rfl rfl) ?_ | refine VOps.vP (VPure.assign rfl rfl) ?_ | refine VOps.vP (VPure.idx_map rfl rfl rfl (by assumption)) ?_ | refine VOps.vV (VLoad.el1 rfl rfl rfl (by rfl)) ?_ | refine VOps.vP (VPure.nei rfl rfl rfl) ?_)) | refine VCode.seq ?_ | refine VCode.region rfl ?_ | refine VCode.draw [] rfl ?_ | refine VCode.block ?_ | refine VCode.skip ?_))
   refine VCode.cond rfl (fun hb => ?_) (fun hb => ?_)
   ·(repeat (first | ((with_reducible refine VOps.same ?_); (first | (refine VOps.nil ?_; try dsimp only [VThen, VBlock]) | refine VOps.vP (VPure.assign rfl rfl) ?_)) | refine VCode.seq ?_ | refine VCode.region rfl ?_))
    refine VCode.give hcx rfl rfl rfl rfl rfl ?_
    have hne : t ≠ u := by simpa using hb
    have : decide (a = b) = false := decide_eq_false (fun e => hne (by subst e; rw [ht] at hu; exact Option.some.inj hu))
    rw [this]
   ·(repeat (first | ((with_reducible refine VOps.same ?_); (first | (refine VOps.nil ?_; try dsimp only [VThen, VBlock]) | refine VOps.vP (VPure.move rfl rfl) ?_ | refine VOps.vP (VPure.addK rfl rfl rfl (by omega)) ?_)) | refine VCode.region rfl ?_ | refine VCode.skip ?_))
    (refine Less.mk (l := []) hcx ?ss ?hh rfl (by decide) rfl ⟨_, ?_, k + 1, by omega, rfl, ?_, rfl⟩; (case ss => repeat (first | exact SubS.nil | refine SubS.cons rfl rfl ?_ | refine SubS.cons (ciI (by omega)) rfl ?_ | refine SubS.cons (ciB (by assumption)) rfl ?_)); (case hh => repeat (first | exact SubH.nil | refine SubH.cons rfl rfl rfl ?_)))
    ·omega
    ·exact take_eq hs ht hu (by simpa using hb)
  | none =>
   have hge : a.length ≤ k := List.getElem?_eq_none_iff.1 ht
   rw [List.take_of_length_le hge, List.take_of_length_le (by omega)] at hs
   (repeat (first | ((with_reducible refine VOps.same ?_); (first | (refine VOps.nil ?_; try dsimp only [VThen, VBlock]) | refine VOps.vP (VPure.lss rfl rfl rfl) ?_)) | refine VCode.seq ?_ | refine VCode.region rfl ?_))
   refine VCode.cond_f rfl (decide_eq_false (by omega)) ?_
   (repeat (first | ((with_reducible refine VOps.same ?_); (first | (refine VOps.nil ?_; try dsimp only [VThen, VBlock]) | refine VOps.vP (VPure.assign rfl rfl) ?_)) | refine VCode.seq ?_ | refine VCode.region rfl ?_ | refine VCode.exit ?_))
   refine VCode.give hcx rfl rfl rfl rfl rfl ?_
   rw [decide_eq_true hs]
def ruEq (x r : Ru) : Bool := decide (x.left = r.left) && decide (x.right = r.right)
theorem ruEq_iff (x r : Ru) : ruEq x r = true ↔ x = r := by
 obtain ⟨a, b⟩ := x
 obtain ⟨c, d⟩ := r
 simp [ruEq]
set_option maxHeartbeats 1000000 in
theorem alike_v (x r : Ru) (hx : x.right.length ≤ 1000000) : VCalls Try.prog 80 [rV x, rV r] [] 0 (Gives (.val (.bool (ruEq x r)))) := by
 refine VCalls.enterD (n := 17) Try.func80 rfl rfl (by simp) rfl (fun cx hcx => ?_)
 (repeat (first | ((with_reducible refine VOps.same ?_); (first | (refine VOps.nil ?_; try dsimp only [VThen, VBlock]) | refine VOps.vP (VPure.move rfl rfl) ?_ | refine VOps.vP (VPure.assign rfl rfl) ?_ | refine VOps.vP (VPure.field_ptr rfl rfl rfl) ?_ | refine VOps.vV (VLoad.box1 rfl rfl rfl rfl (by rfl) (by decide)) ?_ | refine VOps.vP (VPure.eqi rfl rfl rfl) ?_ | refine VOps.box rfl rfl (by kernel_rfl) rfl rfl rfl rfl ?_)) | refine VCode.seq ?_ | refine VCode.region rfl ?_))
 refine VOps.bool (d := 10) rfl (fun h1 => ?_) (fun h1 => ?_)
 ·(repeat (first | ((with_reducible refine VOps.same ?_); (first | refine VOps.vP (VPure.field_ptr rfl rfl rfl) ?_ | refine VOps.vV (VLoad.box1 rfl rfl rfl rfl (by rfl) (by decide)) ?_))))
  refine VOps.pure rfl Try.func93 rfl (by kernel_rfl) rfl rfl rfl rfl rfl rfl rfl (equal_v x.right r.right hx) ?_
  (repeat (first | ((with_reducible refine VOps.same ?_); (first | (refine VOps.nil ?_; try dsimp only [VThen, VBlock]) | refine VOps.vP (VPure.assign rfl rfl) ?_ | refine VOps.vP (VPure.pick_t rfl rfl rfl) ?_))))
  refine VCode.retD rfl rfl (.tmp rfl .nil) ?_
  unfold ruEq; rw [h1]; rfl
 ·(repeat (first | ((with_reducible refine VOps.same ?_); (first | (refine VOps.nil ?_; try dsimp only [VThen, VBlock]) | refine VOps.vP (VPure.assign rfl rfl) ?_ | refine VOps.vP (VPure.pick_f rfl rfl rfl) ?_ | refine VOps.passv rfl (by kernel_rfl) rfl ?_))))
  refine VCode.retD rfl rfl (.tmp rfl .nil) ?_
  unfold ruEq; rw [h1]; rfl
abbrev rO (r : Ru) : O := .cells 46 [.val (.int .i64 r.left), .sl 1 (r.right.map encI)]
set_option maxHeartbeats 1000000 in
theorem has1_v (r x : Ru) (hx : x.right.length ≤ 1000000) : VCalls Try.prog 79 [rV x, .ptr 0 0] [(0, rO r)] 1 (Leaves (.val (.bool (ruEq x r))) [(0, rO r)] 1) := by
 refine VCalls.enterL (n := 7) Try.func79 rfl rfl (by simp) (fun cx hcx => ?_)
 (repeat (first | ((with_reducible refine VOps.same ?_); (first | (refine VOps.nil ?_; try dsimp only [VThen, VBlock]) | refine VOps.vP (VPure.assign rfl rfl) ?_ | refine VOps.vV (VLoad.boxA rfl rfl rfl (by rfl) (leR (by rfl)) (by decide)) ?_ | refine VOps.box rfl rfl (by kernel_rfl) rfl rfl rfl rfl ?_)) | refine VCode.seq ?_ | refine VCode.region rfl ?_))
 refine VOps.pure rfl Try.func80 rfl (by kernel_rfl) rfl rfl rfl rfl rfl rfl rfl (alike_v x r hx) ?_
 (repeat (first | ((with_reducible refine VOps.same ?_); (first | (refine VOps.nil ?_; try dsimp only [VThen, VBlock]) | refine VOps.vP (VPure.assign rfl rfl) ?_))))
 refine VCode.ret ?_
 (show Less cx _ _; refine Less.mkx (l := [0]) (st' := ⟨[(3, .val (.bool (ruEq x r)))], [(0, rO r)], 1⟩) 1 hcx (Nat.le_of_ble_eq_true rfl) (by decide) ?ss ?hh rfl (by decide) rfl ⟨_, (.tmp rfl .nil), rfl, rfl, rfl⟩; (case ss => repeat (first | exact SubS.nil | refine SubS.cons rfl rfl ?_ | refine SubS.cons (ciI (by omega)) rfl ?_ | refine SubS.cons (ciB (by assumption)) rfl ?_)); (case hh => repeat (first | exact SubH.nil | refine SubH.cons rfl rfl rfl ?_)))
set_option maxHeartbeats 1000000 in
theorem idxR_v (r : Ru) (l : List Ru) (hl : l.length ≤ 1000000) (hr0 : ∀ x ∈ l, x.right.length ≤ 1000000) : VCalls Try.prog 92 [.sl 2 (l.map encR), .fn 79 [.ptr 0 0]] [(0, rO r)] 1 (Leaves (.val (.int .i64 (firstAt (fun x => ruEq x r) l))) [(0, rO r)] 1) := by
 refine VCalls.enterL (n := 19) Try.func92 rfl rfl (by simp) (fun cx hcx => ?_)
 (repeat (first | ((with_reducible refine VOps.same ?_); (first | (refine VOps.nil ?_; try dsimp only [VThen, VBlock]) | refine VOps.vP (VPure.move rfl rfl) ?_ | refine VOps.vP (VPure.assign rfl rfl) ?_ | refine VOps.vP (VPure.len_map TI.und' rfl rfl) ?_)) | refine VCode.seq ?_ | refine VCode.region rfl ?_ | refine VCode.block ?_))
 refine VCode.loop (fun m st => ∃ k : Nat, k ≤ l.length ∧ m = l.length - k ∧ (∀ y ∈ l.take k, (fun x => ruEq x r) y = false) ∧ st = ⟨[(8, .val (.int .i64 (k : Int))), (7, .val (.int .i64 (l.length : Int))), (0, .sl 2 (l.map encR)), (1, .fn 79 [.ptr 0 0])], [(0, rO r)], 1⟩) l.length ?_ ?_
 ·(refine Less.mkx (l := [0]) 1 hcx (by exact Nat.le_of_ble_eq_true rfl) (by decide) ?ss ?hh rfl (by decide) rfl ⟨0, by omega, by omega, by simp, rfl⟩; (case ss => repeat (first | exact SubS.nil | refine SubS.cons rfl rfl ?_ | refine SubS.cons (ciI (by omega)) rfl ?_ | refine SubS.cons (ciB (by assumption)) rfl ?_)); (case hh => repeat (first | exact SubH.nil | refine SubH.cons rfl rfl rfl ?_)))
 rintro m st ⟨k, hk, rfl, hb, rfl⟩
 cases ht : l[k]? with
 | some e =>
  have hlt : k < l.length := (List.getElem?_eq_some_iff.1 ht).1
  (repeat (first | ((with_reducible refine VOps.same ?_); (first | (refine VOps.nil ?_; try dsimp only [VThen, VBlock]) | refine VOps.vP (VPure.lss rfl rfl rfl) ?_)) | refine VCode.seq ?_ | refine VCode.region rfl ?_))
  refine VCode.cond_t rfl (decide_eq_true (by omega)) ?_
  (repeat (first | ((with_reducible refine VOps.same ?_); (first | (refine VOps.nil ?_; try dsimp only [VThen, VBlock]) | refine VOps.vP (VPure.move rfl rfl) ?_ | refine VOps.vP (VPure.assign rfl rfl) ?_ | refine VOps.vP (VPure.idx_map rfl rfl rfl (by assumption)) ?_ | refine VOps.vV (VLoad.elA rfl rfl (by rfl) (leR (by rfl))) ?_)) | refine VCode.seq ?_ | refine VCode.region rfl ?_ | refine VCode.block ?_ | refine VCode.skip ?_))
  (refine VOps.callL (ch := [(0, rO r)]) [0] rfl Try.func79 rfl (by kernel_rfl) rfl rfl rfl rfl ?hh (by decide) rfl rfl rfl (has1_v r e (hr0 e (List.mem_of_getElem? ht))) rfl (by rfl) rfl ?_; (case hh => repeat (first | exact SubH.nil | refine SubH.cons rfl rfl rfl ?_)))
  (repeat (first | ((with_reducible refine VOps.same ?_); (first | (refine VOps.nil ?_; try dsimp only [VThen, VBlock])))))
  refine VCode.cond rfl (fun hp => ?_) (fun hp => ?_)
  ·(repeat (first | ((with_reducible refine VOps.same ?_); (first | (refine VOps.nil ?_; try dsimp only [VThen, VBlock]) | refine VOps.vP (VPure.move rfl rfl) ?_ | refine VOps.vP (VPure.assign rfl rfl) ?_)) | refine VCode.seq ?_ | refine VCode.region rfl ?_))
   refine VCode.ret ?_
   have hr : (k : Int) = firstAt (fun x => ruEq x r) l := (firstAt_some ht hp hb).symm
   (show Less cx _ _; refine Less.mkx (l := [0]) (st' := ⟨[(4, .val (.int .i64 (firstAt (fun x => ruEq x r) l)))], [(0, rO r)], 1⟩) 1 hcx (Nat.le_of_ble_eq_true rfl) (by decide) ?ss ?hh rfl (by decide) rfl ⟨_, (.tmp rfl .nil), rfl, rfl, rfl⟩; (case ss => repeat (first | exact SubS.nil | refine SubS.cons rfl rfl ?_ | refine SubS.cons (ciI (by omega)) rfl ?_ | refine SubS.cons (ciB (by assumption)) rfl ?_)); (case hh => repeat (first | exact SubH.nil | refine SubH.cons rfl rfl rfl ?_)))
  ·(repeat (first | ((with_reducible refine VOps.same ?_); (first | (refine VOps.nil ?_; try dsimp only [VThen, VBlock]) | refine VOps.vP (VPure.move rfl rfl) ?_ | refine VOps.vP (VPure.addK rfl rfl rfl (by omega)) ?_)) | refine VCode.region rfl ?_ | refine VCode.skip ?_))
   (refine Less.mkx (l := [0]) 1 hcx (by exact Nat.le_of_ble_eq_true rfl) (by decide) ?ss ?hh rfl (by decide) rfl ⟨_, ?_, k + 1, by omega, rfl, ?_, rfl⟩; (case ss => repeat (first | exact SubS.nil | refine SubS.cons rfl rfl ?_ | refine SubS.cons (ciI (by omega)) rfl ?_ | refine SubS.cons (ciB (by assumption)) rfl ?_)); (case hh => repeat (first | exact SubH.nil | refine SubH.cons rfl rfl rfl ?_)))
   ·omega
   ·exact take_no ht hb hp
 | none =>
  have hge : l.length ≤ k := List.getElem?_eq_none_iff.1 ht
  rw [List.take_of_length_le hge] at hb
  (repeat (first | ((with_reducible refine VOps.same ?_); (first | (refine VOps.nil ?_; try dsimp only [VThen, VBlock]) | refine VOps.vP (VPure.lss rfl rfl rfl) ?_)) | refine VCode.seq ?_ | refine VCode.region rfl ?_))
  refine VCode.cond_f rfl (decide_eq_false (by omega)) ?_
  (repeat (first | ((with_reducible refine VOps.same ?_); (first | (refine VOps.nil ?_; try dsimp only [VThen, VBlock]) | refine VOps.vP (VPure.assign rfl rfl) ?_)) | refine VCode.seq ?_ | refine VCode.region rfl ?_ | refine VCode.exit ?_))
  refine VCode.ret ?_
  have hr : -1 = firstAt (fun x => ruEq x r) l := (firstAt_none hb).symm
  (show Less cx _ _; refine Less.mkx (l := [0]) (st' := ⟨[(4, .val (.int .i64 (firstAt (fun x => ruEq x r) l)))], [(0, rO r)], 1⟩) 1 hcx (Nat.le_of_ble_eq_true rfl) (by decide) ?ss ?hh rfl (by decide) rfl ⟨_, (.tmp rfl .nil), rfl, rfl, rfl⟩; (case ss => repeat (first | exact SubS.nil | refine SubS.cons rfl rfl ?_ | refine SubS.cons (ciI (by omega)) rfl ?_ | refine SubS.cons (ciB (by assumption)) rfl ?_)); (case hh => repeat (first | exact SubH.nil | refine SubH.cons rfl rfl rfl ?_)))
set_option maxHeartbeats 1000000 in
theorem conR_v (r : Ru) (l : List Ru) (hl : l.length ≤ 1000000) (hr0 : ∀ x ∈ l, x.right.length ≤ 1000000) : VCalls Try.prog 78 [.sl 2 (l.map encR), .fn 79 [.ptr 0 0]] [(0, rO r)] 1 (Leaves (.val (.bool (l.any (fun x => ruEq x r)))) [(0, rO r)] 1) := by
 refine VCalls.enterL (n := 9) Try.func78 rfl rfl (by simp) (fun cx hcx => ?_)
 (repeat (first | ((with_reducible refine VOps.same ?_); (first | (refine VOps.nil ?_; try dsimp only [VThen, VBlock]) | refine VOps.vP (VPure.move rfl rfl) ?_ | refine VOps.vP (VPure.assign rfl rfl) ?_)) | refine VCode.seq ?_ | refine VCode.region rfl ?_))
 (refine VOps.callL (ch := [(0, rO r)]) [0] rfl Try.func92 rfl (by kernel_rfl) rfl rfl rfl rfl ?hh (by decide) rfl rfl rfl (idxR_v r l hl hr0) rfl (by rfl) rfl ?_; (case hh => repeat (first | exact SubH.nil | refine SubH.cons rfl rfl rfl ?_)))
 (repeat (first | ((with_reducible refine VOps.same ?_); (first | (refine VOps.nil ?_; try dsimp only [VThen, VBlock]) | refine VOps.vP (VPure.assign rfl rfl) ?_ | refine VOps.vP (VPure.geq rfl rfl rfl) ?_))))
 refine VCode.ret ?_
 have hr : decide (0 ≤ firstAt (fun x => ruEq x r) l) = l.any (fun x => ruEq x r) := firstAt_ge _ _
 (show Less cx _ _; refine Less.mkx (l := [0]) (st' := ⟨[(4, .val (.bool (l.any (fun x => ruEq x r))))], [(0, rO r)], 1⟩) 1 hcx (Nat.le_of_ble_eq_true rfl) (by decide) ?ss ?hh rfl (by decide) rfl ⟨_, (.tmp rfl .nil), rfl, rfl, rfl⟩; (case ss => repeat (first | exact SubS.nil | refine SubS.cons rfl rfl ?_ | refine SubS.cons (ciI (by omega)) rfl ?_ | refine SubS.cons (ciB (by assumption)) rfl ?_)); (case hh => repeat (first | exact SubH.nil | refine SubH.cons rfl rfl rfl ?_)))
def inR (l : List Ru) (r : Ru) : Bool := l.any fun x => ruEq x r
theorem inR_iff (l : List Ru) (r : Ru) : inR l r = true ↔ r ∈ l := by
 unfold inR
 rw [List.any_eq_true]
 exact ⟨fun ⟨y, h, e⟩ => by rw [ruEq_iff] at e; subst e; exact h, fun h => ⟨r, h, by rw [ruEq_iff]⟩⟩
set_option maxHeartbeats 1000000 in
theorem ghas_v (l : List Ru) (r : Ru) (hl : l.length ≤ 1000000) (hr0 : ∀ x ∈ l, x.right.length ≤ 1000000) : VCalls Try.prog 58 [.sl 2 (l.map encR), rV r] [] 0 (Gives (.val (.bool (inR l r)))) := by
 refine VCalls.enterD (n := 8) Try.func58 rfl rfl (by simp) rfl (fun cx hcx => ?_)
 (repeat (first | ((with_reducible refine VOps.same ?_); (first | (refine VOps.nil ?_; try dsimp only [VThen, VBlock]) | refine VOps.vP (VPure.move rfl rfl) ?_ | refine VOps.vP (VPure.assign rfl rfl) ?_ | refine VOps.box rfl rfl (by kernel_rfl) rfl rfl rfl rfl ?_ | refine VOps.vP (VPure.fnE rfl rfl) ?_)) | refine VCode.seq ?_ | refine VCode.region rfl ?_))
 (refine VOps.callL (ch := [(0, rO r)]) [0] rfl Try.func78 rfl (by kernel_rfl) rfl rfl rfl rfl ?hh (by decide) rfl rfl rfl (conR_v r l hl hr0) rfl (by rfl) rfl ?_; (case hh => repeat (first | exact SubH.nil | refine SubH.cons rfl rfl rfl ?_)))
 (repeat (first | ((with_reducible refine VOps.same ?_); (first | (refine VOps.nil ?_; try dsimp only [VThen, VBlock]) | refine VOps.vP (VPure.assign rfl rfl) ?_))))
 refine VCode.retD rfl rfl (.tmp rfl .nil) ?_
 rfl
def noSym (n : Int) (s : Int) : Bool := decide (s < 0) || decide (n ≤ s)
abbrev iO (n : Int) : O := .cells 3 [.val (.int .i64 n)]
set_option maxHeartbeats 1000000 in
theorem ruled1_v (n s : Int) : VCalls Try.prog 86 [.val (.int .i64 s), .ptr 0 0] [(0, iO n)] 1 (Leaves (.val (.bool (noSym n s))) [(0, iO n)] 1) := by
 refine VCalls.enterL (n := 11) Try.func86 rfl rfl (by simp) (fun cx hcx => ?_)
 (repeat (first | ((with_reducible refine VOps.same ?_); (first | (refine VOps.nil ?_; try dsimp only [VThen, VBlock]) | refine VOps.vP (VPure.move rfl rfl) ?_ | refine VOps.vP (VPure.assign rfl rfl) ?_ | refine VOps.vP (VPure.lss rfl rfl rfl) ?_)) | refine VCode.seq ?_ | refine VCode.region rfl ?_))
 refine VOps.bool (d := 6) rfl (fun h1 => ?_) (fun h1 => ?_)
 ·(repeat (first | ((with_reducible refine VOps.same ?_); (first | (refine VOps.nil ?_; try dsimp only [VThen, VBlock]) | refine VOps.vP (VPure.assign rfl rfl) ?_ | refine VOps.vP (VPure.pick_t rfl rfl rfl) ?_ | refine VOps.passv rfl (by kernel_rfl) rfl ?_))))
  refine VCode.ret ?_
  have hb : true = noSym n s := by unfold noSym; rw [h1]; rfl
  (show Less cx _ _; refine Less.mkx (l := [0]) (st' := ⟨[(3, .val (.bool (noSym n s)))], [(0, iO n)], 1⟩) 1 hcx (Nat.le_of_ble_eq_true rfl) (by decide) ?ss ?hh rfl (by decide) rfl ⟨_, (.tmp rfl .nil), rfl, rfl, rfl⟩; (case ss => repeat (first | exact SubS.nil | refine SubS.cons rfl rfl ?_ | refine SubS.cons (ciI (by omega)) rfl ?_ | refine SubS.cons (ciB (by assumption)) rfl ?_)); (case hh => repeat (first | exact SubH.nil | refine SubH.cons rfl rfl rfl ?_)))
 (repeat (first | ((with_reducible refine VOps.same ?_); (first | (refine VOps.nil ?_; try dsimp only [VThen, VBlock]) | refine VOps.vP (VPure.move rfl rfl) ?_ | refine VOps.vP (VPure.assign rfl rfl) ?_ | refine VOps.vV (VLoad.box1 rfl rfl rfl rfl (by rfl) (by decide)) ?_ | refine VOps.vP (VPure.geq rfl rfl rfl) ?_ | refine VOps.vP (VPure.pick_f rfl rfl rfl) ?_))))
 refine VCode.ret ?_
 have hb : decide (n ≤ s) = noSym n s := by unfold noSym; rw [h1]; rfl
 (show Less cx _ _; refine Less.mkx (l := [0]) (st' := ⟨[(3, .val (.bool (noSym n s)))], [(0, iO n)], 1⟩) 1 hcx (Nat.le_of_ble_eq_true rfl) (by decide) ?ss ?hh rfl (by decide) rfl ⟨_, (.tmp rfl .nil), rfl, rfl, rfl⟩; (case ss => repeat (first | exact SubS.nil | refine SubS.cons rfl rfl ?_ | refine SubS.cons (ciI (by omega)) rfl ?_ | refine SubS.cons (ciB (by assumption)) rfl ?_)); (case hh => repeat (first | exact SubH.nil | refine SubH.cons rfl rfl rfl ?_)))
set_option maxHeartbeats 1000000 in
theorem idxN_v (n : Int) (l : List Int) (hl : l.length ≤ 1000000) : VCalls Try.prog 94 [.sl 1 (l.map encI), .fn 86 [.ptr 0 0]] [(0, iO n)] 1 (Leaves (.val (.int .i64 (firstAt (noSym n) l))) [(0, iO n)] 1) := by
 refine VCalls.enterL (n := 19) Try.func94 rfl rfl (by simp) (fun cx hcx => ?_)
 (repeat (first | ((with_reducible refine VOps.same ?_); (first | (refine VOps.nil ?_; try dsimp only [VThen, VBlock]) | refine VOps.vP (VPure.move rfl rfl) ?_ | refine VOps.vP (VPure.assign rfl rfl) ?_ | refine VOps.vP (VPure.len_map TI.und' rfl rfl) ?_)) | refine VCode.seq ?_ | refine VCode.region rfl ?_ | refine VCode.block ?_))
 refine VCode.loop (fun m st => ∃ k : Nat, k ≤ l.length ∧ m = l.length - k ∧ (∀ y ∈ l.take k, (noSym n) y = false) ∧ st = ⟨[(8, .val (.int .i64 (k : Int))), (7, .val (.int .i64 (l.length : Int))), (0, .sl 1 (l.map encI)), (1, .fn 86 [.ptr 0 0])], [(0, iO n)], 1⟩) l.length ?_ ?_
 ·(refine Less.mkx (l := [0]) 1 hcx (by exact Nat.le_of_ble_eq_true rfl) (by decide) ?ss ?hh rfl (by decide) rfl ⟨0, by omega, by omega, by simp, rfl⟩; (case ss => repeat (first | exact SubS.nil | refine SubS.cons rfl rfl ?_ | refine SubS.cons (ciI (by omega)) rfl ?_ | refine SubS.cons (ciB (by assumption)) rfl ?_)); (case hh => repeat (first | exact SubH.nil | refine SubH.cons rfl rfl rfl ?_)))
 rintro m st ⟨k, hk, rfl, hb, rfl⟩
 cases ht : l[k]? with
 | some e =>
  have hlt : k < l.length := (List.getElem?_eq_some_iff.1 ht).1
  (repeat (first | ((with_reducible refine VOps.same ?_); (first | (refine VOps.nil ?_; try dsimp only [VThen, VBlock]) | refine VOps.vP (VPure.lss rfl rfl rfl) ?_)) | refine VCode.seq ?_ | refine VCode.region rfl ?_))
  refine VCode.cond_t rfl (decide_eq_true (by omega)) ?_
  (repeat (first | ((with_reducible refine VOps.same ?_); (first | (refine VOps.nil ?_; try dsimp only [VThen, VBlock]) | refine VOps.vP (VPure.move rfl rfl) ?_ | refine VOps.vP (VPure.assign rfl rfl) ?_ | refine VOps.vP (VPure.idx_map rfl rfl rfl (by assumption)) ?_ | refine VOps.vV (VLoad.el1 rfl rfl rfl (by rfl)) ?_)) | refine VCode.seq ?_ | refine VCode.region rfl ?_ | refine VCode.block ?_ | refine VCode.skip ?_))
  (refine VOps.callL (ch := [(0, iO n)]) [0] rfl Try.func86 rfl (by kernel_rfl) rfl rfl rfl rfl ?hh (by decide) rfl rfl rfl (ruled1_v n e) rfl (by rfl) rfl ?_; (case hh => repeat (first | exact SubH.nil | refine SubH.cons rfl rfl rfl ?_)))
  (repeat (first | ((with_reducible refine VOps.same ?_); (first | (refine VOps.nil ?_; try dsimp only [VThen, VBlock])))))
  refine VCode.cond rfl (fun hp => ?_) (fun hp => ?_)
  ·(repeat (first | ((with_reducible refine VOps.same ?_); (first | (refine VOps.nil ?_; try dsimp only [VThen, VBlock]) | refine VOps.vP (VPure.move rfl rfl) ?_ | refine VOps.vP (VPure.assign rfl rfl) ?_)) | refine VCode.seq ?_ | refine VCode.region rfl ?_))
   refine VCode.ret ?_
   have hr : (k : Int) = firstAt (noSym n) l := (firstAt_some ht hp hb).symm
   (show Less cx _ _; refine Less.mkx (l := [0]) (st' := ⟨[(4, .val (.int .i64 (firstAt (noSym n) l)))], [(0, iO n)], 1⟩) 1 hcx (Nat.le_of_ble_eq_true rfl) (by decide) ?ss ?hh rfl (by decide) rfl ⟨_, (.tmp rfl .nil), rfl, rfl, rfl⟩; (case ss => repeat (first | exact SubS.nil | refine SubS.cons rfl rfl ?_ | refine SubS.cons (ciI (by omega)) rfl ?_ | refine SubS.cons (ciB (by assumption)) rfl ?_)); (case hh => repeat (first | exact SubH.nil | refine SubH.cons rfl rfl rfl ?_)))
  ·(repeat (first | ((with_reducible refine VOps.same ?_); (first | (refine VOps.nil ?_; try dsimp only [VThen, VBlock]) | refine VOps.vP (VPure.move rfl rfl) ?_ | refine VOps.vP (VPure.addK rfl rfl rfl (by omega)) ?_)) | refine VCode.region rfl ?_ | refine VCode.skip ?_))
   (refine Less.mkx (l := [0]) 1 hcx (by exact Nat.le_of_ble_eq_true rfl) (by decide) ?ss ?hh rfl (by decide) rfl ⟨_, ?_, k + 1, by omega, rfl, ?_, rfl⟩; (case ss => repeat (first | exact SubS.nil | refine SubS.cons rfl rfl ?_ | refine SubS.cons (ciI (by omega)) rfl ?_ | refine SubS.cons (ciB (by assumption)) rfl ?_)); (case hh => repeat (first | exact SubH.nil | refine SubH.cons rfl rfl rfl ?_)))
   ·omega
   ·exact take_no ht hb hp
 | none =>
  have hge : l.length ≤ k := List.getElem?_eq_none_iff.1 ht
  rw [List.take_of_length_le hge] at hb
  (repeat (first | ((with_reducible refine VOps.same ?_); (first | (refine VOps.nil ?_; try dsimp only [VThen, VBlock]) | refine VOps.vP (VPure.lss rfl rfl rfl) ?_)) | refine VCode.seq ?_ | refine VCode.region rfl ?_))
  refine VCode.cond_f rfl (decide_eq_false (by omega)) ?_
  (repeat (first | ((with_reducible refine VOps.same ?_); (first | (refine VOps.nil ?_; try dsimp only [VThen, VBlock]) | refine VOps.vP (VPure.assign rfl rfl) ?_)) | refine VCode.seq ?_ | refine VCode.region rfl ?_ | refine VCode.exit ?_))
  refine VCode.ret ?_
  have hr : -1 = firstAt (noSym n) l := (firstAt_none hb).symm
  (show Less cx _ _; refine Less.mkx (l := [0]) (st' := ⟨[(4, .val (.int .i64 (firstAt (noSym n) l)))], [(0, iO n)], 1⟩) 1 hcx (Nat.le_of_ble_eq_true rfl) (by decide) ?ss ?hh rfl (by decide) rfl ⟨_, (.tmp rfl .nil), rfl, rfl, rfl⟩; (case ss => repeat (first | exact SubS.nil | refine SubS.cons rfl rfl ?_ | refine SubS.cons (ciI (by omega)) rfl ?_ | refine SubS.cons (ciB (by assumption)) rfl ?_)); (case hh => repeat (first | exact SubH.nil | refine SubH.cons rfl rfl rfl ?_)))
set_option maxHeartbeats 1000000 in
theorem conN_v (n : Int) (l : List Int) (hl : l.length ≤ 1000000) : VCalls Try.prog 85 [.sl 1 (l.map encI), .fn 86 [.ptr 0 0]] [(0, iO n)] 1 (Leaves (.val (.bool (l.any (noSym n)))) [(0, iO n)] 1) := by
 refine VCalls.enterL (n := 9) Try.func85 rfl rfl (by simp) (fun cx hcx => ?_)
 (repeat (first | ((with_reducible refine VOps.same ?_); (first | (refine VOps.nil ?_; try dsimp only [VThen, VBlock]) | refine VOps.vP (VPure.move rfl rfl) ?_ | refine VOps.vP (VPure.assign rfl rfl) ?_)) | refine VCode.seq ?_ | refine VCode.region rfl ?_))
 (refine VOps.callL (ch := [(0, iO n)]) [0] rfl Try.func94 rfl (by kernel_rfl) rfl rfl rfl rfl ?hh (by decide) rfl rfl rfl (idxN_v n l hl) rfl (by rfl) rfl ?_; (case hh => repeat (first | exact SubH.nil | refine SubH.cons rfl rfl rfl ?_)))
 (repeat (first | ((with_reducible refine VOps.same ?_); (first | (refine VOps.nil ?_; try dsimp only [VThen, VBlock]) | refine VOps.vP (VPure.assign rfl rfl) ?_ | refine VOps.vP (VPure.geq rfl rfl rfl) ?_))))
 refine VCode.ret ?_
 have hr : decide (0 ≤ firstAt (noSym n) l) = l.any (noSym n) := firstAt_ge _ _
 (show Less cx _ _; refine Less.mkx (l := [0]) (st' := ⟨[(4, .val (.bool (l.any (noSym n))))], [(0, iO n)], 1⟩) 1 hcx (Nat.le_of_ble_eq_true rfl) (by decide) ?ss ?hh rfl (by decide) rfl ⟨_, (.tmp rfl .nil), rfl, rfl, rfl⟩; (case ss => repeat (first | exact SubS.nil | refine SubS.cons rfl rfl ?_ | refine SubS.cons (ciI (by omega)) rfl ?_ | refine SubS.cons (ciB (by assumption)) rfl ?_)); (case hh => repeat (first | exact SubH.nil | refine SubH.cons rfl rfl rfl ?_)))
def isT (g : Gr) (s : Int) : Bool := decide (0 ≤ s) && decide (s < (g.terms.length : Int))
set_option maxHeartbeats 1000000 in
theorem term1_v (g : Gr) (s : Int) (h : g.terms.length ≤ 1000000) : VCalls Try.prog 38 [gV g, .val (.int .i64 s)] [] 0 (Gives (.val (.bool (isT g s)))) := by
 refine VCalls.enterD (n := 14) Try.func38 rfl rfl (by simp) rfl (fun cx hcx => ?_)
 (repeat (first | ((with_reducible refine VOps.same ?_); (first | (refine VOps.nil ?_; try dsimp only [VThen, VBlock]) | refine VOps.vP (VPure.move rfl rfl) ?_ | refine VOps.vP (VPure.assign rfl rfl) ?_ | refine VOps.vP (VPure.geq rfl rfl rfl) ?_ | refine VOps.box rfl rfl (by kernel_rfl) rfl rfl rfl rfl ?_)) | refine VCode.seq ?_ | refine VCode.region rfl ?_))
 refine VOps.bool (d := 7) rfl (fun h1 => ?_) (fun h1 => ?_)
 ·(repeat (first | ((with_reducible refine VOps.same ?_); (first | (refine VOps.nil ?_; try dsimp only [VThen, VBlock]) | refine VOps.vP (VPure.move rfl rfl) ?_ | refine VOps.vP (VPure.assign rfl rfl) ?_ | refine VOps.vP (VPure.len_map TI.und' rfl rfl) ?_ | refine VOps.vP (VPure.field_ptr rfl rfl rfl) ?_ | refine VOps.vV (VLoad.box1 rfl rfl rfl rfl (by rfl) (by decide)) ?_ | refine VOps.vP (VPure.lss rfl rfl rfl) ?_ | refine VOps.vP (VPure.pick_t rfl rfl rfl) ?_))))
  refine VCode.retD rfl rfl (.tmp rfl .nil) ?_
  unfold isT; rw [h1]; rfl
 ·(repeat (first | ((with_reducible refine VOps.same ?_); (first | (refine VOps.nil ?_; try dsimp only [VThen, VBlock]) | refine VOps.vP (VPure.assign rfl rfl) ?_ | refine VOps.vP (VPure.pick_f rfl rfl rfl) ?_ | refine VOps.passv rfl (by kernel_rfl) rfl ?_))))
  refine VCode.retD rfl rfl (.tmp rfl .nil) ?_
  unfold isT; rw [h1]; rfl
def rise : Int → List Int → Option Int
 | f, [] => some f
 | f, n :: l => if f < n then none else rise (if n = f then f + 1 else f) l
theorem rise_append (a b : List Int) : ∀ f, rise f (a ++ b) = (rise f a).bind (fun f' => rise f' b) := by
 induction a with
 | nil => intro f; rfl
 | cons n l ih =>
  intro f
  simp only [List.cons_append, rise]
  split
  ·rfl
  ·exact ih _
theorem rise_take {l : List Int} {k : Nat} {n f f' : Int} (h : l[k]? = some n) (hf : rise f (l.take k) = some f') : rise f (l.take (k + 1)) = if f' < n then none else some (if n = f' then f' + 1 else f') := by
 rw [List.take_add_one, h, rise_append, hf]
 simp [rise]
theorem rise_none {l : List Int} {k : Nat} {f : Int} (h : rise f (l.take k) = none) : rise f l = none := by
 rw [← List.take_append_drop k l, rise_append, h]; rfl
theorem rise_le {l : List Int} : ∀ {f f' : Int}, rise f l = some f' → f ≤ f' ∧ f' ≤ f + l.length := by
 induction l with
 | nil => intro f f' h; simp [rise] at h; simp; omega
 | cons n l ih =>
  intro f f' h
  simp only [rise] at h
  split at h
  ·cases h
  ·have := ih h
   simp only [List.length_cons]
   split at this <;> omega
set_option maxHeartbeats 1000000 in
theorem rising_v (l : List Int) (f t : Int) (hl : l.length ≤ 1000000) (hf : 0 ≤ f) (hf' : f ≤ 1000000) : VCalls Try.prog 63 [.sl 1 (l.map encI), .val (.int .i64 f), .val (.int .i64 t)] [] 0 (Gives (.val (.bool (decide (rise f l = some t))))) := by
 refine VCalls.enter (n := 27) Try.func63 rfl rfl (by simp) (fun cx hcx => ?_)
 (repeat (first | ((with_reducible refine VOps.same ?_); (first | (refine VOps.nil ?_; try dsimp only [VThen, VBlock]) | refine VOps.vP (VPure.move rfl rfl) ?_ | refine VOps.vP (VPure.assign rfl rfl) ?_ | refine VOps.vP (VPure.len_map TI.und' rfl rfl) ?_)) | refine VCode.seq ?_ | refine VCode.region rfl ?_ | refine VCode.block ?_))
 refine VCode.loop (fun m st => ∃ (k : Nat) (f' : Int), k ≤ l.length ∧ m = l.length - k ∧ rise f (l.take k) = some f' ∧ st = ⟨[(11, .val (.int .i64 (k : Int))), (10, .val (.int .i64 (l.length : Int))), (9, .sl 1 (l.map encI)), (1, .val (.int .i64 f')), (2, .val (.int .i64 t))], [], 0⟩) l.length ?_ ?_
 ·(refine Less.mk (l := []) hcx ?ss ?hh rfl (by decide) rfl ⟨0, f, by omega, by omega, rfl, rfl⟩; (case ss => repeat (first | exact SubS.nil | refine SubS.cons rfl rfl ?_ | refine SubS.cons (ciI (by omega)) rfl ?_ | refine SubS.cons (ciB (by assumption)) rfl ?_)); (case hh => repeat (first | exact SubH.nil | refine SubH.cons rfl rfl rfl ?_)))
 rintro m st ⟨k, f', hk, rfl, hr, rfl⟩
 have hle := rise_le hr
 rw [List.length_take, Nat.min_eq_left hk] at hle
 cases ht : l[k]? with
 | some y =>
  have hlt : k < l.length := (List.getElem?_eq_some_iff.1 ht).1
  have hst := rise_take ht hr
  (repeat (first | ((with_reducible refine VOps.same ?_); (first | (refine VOps.nil ?_; try dsimp only [VThen, VBlock]) | refine VOps.vP (VPure.lss rfl rfl rfl) ?_)) | refine VCode.seq ?_ | refine VCode.region rfl ?_))
  refine VCode.cond_t rfl (decide_eq_true (by omega)) ?_
  (repeat (first | ((with_reducible refine VOps.same ?_); (first | (refine VOps.nil ?_; try dsimp only [VThen, VBlock]) | refine VOps.vP (VPure.move rfl rfl) ?_ | refine VOps.vP (VPure.assign rfl rfl) ?_ | refine VOps.vP (VPure.idx_map rfl rfl rfl (by assumption)) ?_ | refine VOps.vV (VLoad.el1 rfl rfl rfl (by rfl)) ?_ | refine VOps.vP (VPure.gtr rfl rfl rfl) ?_)) | refine VCode.seq ?_ | refine VCode.region rfl ?_ | refine VCode.block ?_ | refine VCode.skip ?_))
  refine VCode.cond rfl (fun hp => ?_) (fun hp => ?_)
  ·(repeat (first | ((with_reducible refine VOps.same ?_); (first | (refine VOps.nil ?_; try dsimp only [VThen, VBlock]) | refine VOps.vP (VPure.assign rfl rfl) ?_)) | refine VCode.seq ?_ | refine VCode.region rfl ?_))
   refine VCode.give hcx rfl rfl rfl rfl rfl ?_
   rw [if_pos (by simpa using hp)] at hst
   rw [rise_none hst]; rfl
  ·rw [if_neg (by simpa using hp)] at hst
   (repeat (first | ((with_reducible refine VOps.same ?_); (first | (refine VOps.nil ?_; try dsimp only [VThen, VBlock]) | refine VOps.vP (VPure.move rfl rfl) ?_ | refine VOps.vP (VPure.eqi rfl rfl rfl) ?_)) | refine VCode.seq ?_ | refine VCode.region rfl ?_ | refine VCode.skip ?_))
   refine VCode.cond rfl (fun hq => ?_) (fun hq => ?_)
   ·rw [if_pos (by simpa using hq)] at hst
    (repeat (first | ((with_reducible refine VOps.same ?_); (first | (refine VOps.nil ?_; try dsimp only [VThen, VBlock]) | refine VOps.vP (VPure.move rfl rfl) ?_ | refine VOps.vP (VPure.assign rfl rfl) ?_ | refine VOps.vP (VPure.addK rfl rfl rfl (by omega)) ?_)) | refine VCode.region rfl ?_))
    (refine Less.mk (l := []) hcx ?ss ?hh rfl (by decide) rfl ⟨_, ?_, k + 1, f' + 1, by omega, rfl, hst, rfl⟩; (case ss => repeat (first | exact SubS.nil | refine SubS.cons rfl rfl ?_ | refine SubS.cons (ciI (by omega)) rfl ?_ | refine SubS.cons (ciB (by assumption)) rfl ?_)); (case hh => repeat (first | exact SubH.nil | refine SubH.cons rfl rfl rfl ?_)))
    omega
   ·rw [if_neg (by simpa using hq)] at hst
    (repeat (first | ((with_reducible refine VOps.same ?_); (first | (refine VOps.nil ?_; try dsimp only [VThen, VBlock]) | refine VOps.vP (VPure.move rfl rfl) ?_ | refine VOps.vP (VPure.addK rfl rfl rfl (by omega)) ?_)) | refine VCode.region rfl ?_ | refine VCode.skip ?_))
    (refine Less.mk (l := []) hcx ?ss ?hh rfl (by decide) rfl ⟨_, ?_, k + 1, f', by omega, rfl, hst, rfl⟩; (case ss => repeat (first | exact SubS.nil | refine SubS.cons rfl rfl ?_ | refine SubS.cons (ciI (by omega)) rfl ?_ | refine SubS.cons (ciB (by assumption)) rfl ?_)); (case hh => repeat (first | exact SubH.nil | refine SubH.cons rfl rfl rfl ?_)))
    omega
 | none =>
  have hge : l.length ≤ k := List.getElem?_eq_none_iff.1 ht
  rw [List.take_of_length_le hge] at hr
  (repeat (first | ((with_reducible refine VOps.same ?_); (first | (refine VOps.nil ?_; try dsimp only [VThen, VBlock]) | refine VOps.vP (VPure.lss rfl rfl rfl) ?_)) | refine VCode.seq ?_ | refine VCode.region rfl ?_))
  refine VCode.cond_f rfl (decide_eq_false (by omega)) ?_
  (repeat (first | ((with_reducible refine VOps.same ?_); (first | (refine VOps.nil ?_; try dsimp only [VThen, VBlock]) | refine VOps.vP (VPure.move rfl rfl) ?_ | refine VOps.vP (VPure.assign rfl rfl) ?_ | refine VOps.vP (VPure.eqi rfl rfl rfl) ?_)) | refine VCode.seq ?_ | refine VCode.region rfl ?_ | refine VCode.exit ?_))
  refine VCode.give hcx rfl rfl rfl rfl rfl ?_
  rw [hr]
  exact congrArg (fun b => V.val (.bool b)) (by rw [decide_eq_decide]; exact ⟨fun h => by rw [h], fun h => Option.some.inj h⟩)
end Go.Proofs.Ytfjfbapiheehaaa.V
end
section
set_option linter.unusedVariables false
set_option linter.unusedSimpArgs false
namespace Go.Proofs.Ytfjfbapiheehaaa.V
open Go Go.RowKit
def okTexts (may : ByteArray → Bool) (l : List ByteArray) : Prop := ∀ (i : Nat) (s : ByteArray), l[i]? = some s → may s = true ∧ s ∉ l.take i
noncomputable instance (may : ByteArray → Bool) (l : List ByteArray) : Decidable (okTexts may l) := Classical.propDecidable _
def okTo (may : ByteArray → Bool) (l : List ByteArray) (k : Nat) : Prop := ∀ (i : Nat) (s : ByteArray), i < k → l[i]? = some s → may s = true ∧ s ∉ l.take i
theorem okTo_zero (may : ByteArray → Bool) (l : List ByteArray) : okTo may l 0 := fun i s h => by omega
theorem okTo.step {may : ByteArray → Bool} {l : List ByteArray} {k : Nat} {y : ByteArray} (h : okTo may l k) (ht : l[k]? = some y) (h1 : may y = true) (h2 : y ∉ l.take k) : okTo may l (k + 1) := fun i s hi hs => by
 by_cases e : i = k
 ·subst e; rw [ht] at hs; obtain rfl := Option.some.inj hs; exact ⟨h1, h2⟩
 ·exact h i s (by omega) hs
theorem okTo.full {may : ByteArray → Bool} {l : List ByteArray} {k : Nat} (h : okTo may l k) (hk : l.length ≤ k) : okTexts may l := fun i s hs => h i s (by have := (List.getElem?_eq_some_iff.1 hs).1; omega) hs
theorem any_mem (l : List ByteArray) (x : ByteArray) : (l.any fun y => decide (x = y)) = true ↔ x ∈ l := by
 rw [List.any_eq_true]
 exact ⟨fun ⟨y, h, e⟩ => by rw [decide_eq_true_eq] at e; subst e; exact h, fun h => ⟨x, h, by simp⟩⟩
set_option maxHeartbeats 2000000 in
theorem distN_v (l : List ByteArray) (a b : Nat) (hl : l.length ≤ 1000000) (hs : ∀ s ∈ l, s.size ≤ 4000) : VCalls Try.prog 59 [.sl 1 (l.map encS), .val (.int .i64 (a : Int)), .val (.int .i64 (b : Int)), .fn 60 []] [] 0 (Gives (.val (.bool (decide (okTexts isName l ∧ a ≤ l.length ∧ l.length ≤ b))))) := by
 refine VCalls.enter (n := 40) Try.func59 rfl rfl (by simp) (fun cx hcx => ?_)
 (repeat (first | ((with_reducible refine VOps.same ?_); (first | (refine VOps.nil ?_; try dsimp only [VThen, VBlock]) | refine VOps.vP (VPure.move rfl rfl) ?_ | refine VOps.vP (VPure.assign rfl rfl) ?_ | refine VOps.vP (VPure.len_map TI.und' rfl rfl) ?_)) | refine VCode.seq ?_ | refine VCode.region rfl ?_ | refine VCode.block ?_))
 refine VCode.loop (fun m st => ∃ k : Nat, k ≤ l.length ∧ m = l.length - k ∧ okTo isName l k ∧ st = ⟨[(13, .val (.int .i64 (k : Int))), (12, .val (.int .i64 (l.length : Int))), (11, .sl 1 (l.map encS)), (0, .sl 1 (l.map encS)), (1, .val (.int .i64 (a : Int))), (2, .val (.int .i64 (b : Int))), (3, .fn 60 [])], [], 0⟩) l.length ?_ ?_
 ·(refine Less.mk (l := []) hcx ?ss ?hh rfl (by decide) rfl ⟨0, by omega, by omega, okTo_zero _ _, rfl⟩; (case ss => repeat (first | exact SubS.nil | refine SubS.cons rfl rfl ?_ | refine SubS.cons (ciI (by omega)) rfl ?_ | refine SubS.cons (ciB (by assumption)) rfl ?_)); (case hh => repeat (first | exact SubH.nil | refine SubH.cons rfl rfl rfl ?_)))
 rintro m st ⟨k, hk, rfl, hb, rfl⟩
 cases ht : l[k]? with
 | some y =>
  have hlt : k < l.length := (List.getElem?_eq_some_iff.1 ht).1
  have hy := hs y (List.mem_of_getElem? ht)
  (repeat (first | ((with_reducible refine VOps.same ?_); (first | (refine VOps.nil ?_; try dsimp only [VThen, VBlock]) | refine VOps.vP (VPure.lss rfl rfl rfl) ?_)) | refine VCode.seq ?_ | refine VCode.region rfl ?_))
  refine VCode.cond_t rfl (decide_eq_true (by omega)) ?_
  (repeat (first | ((with_reducible refine VOps.same ?_); (first | (refine VOps.nil ?_; try dsimp only [VThen, VBlock]) | refine VOps.vP (VPure.move rfl rfl) ?_ | refine VOps.vP (VPure.assign rfl rfl) ?_ | refine VOps.vP (VPure.idx_map rfl rfl rfl (by assumption)) ?_ | refine VOps.vV (VLoad.el1 rfl rfl rfl (by rfl)) ?_)) | refine VCode.seq ?_ | refine VCode.region rfl ?_ | refine VCode.block ?_ | refine VCode.skip ?_))
  refine VOps.pure rfl Try.func60 rfl (by kernel_rfl) rfl rfl rfl rfl rfl rfl rfl (name_v y hy) ?_
  (repeat (first | ((with_reducible refine VOps.same ?_); (first | refine VOps.vP (VPure.move rfl rfl) ?_ | refine VOps.vP (VPure.not rfl rfl) ?_))))
  refine VOps.bool (d := 22) rfl (fun h1 => ?_) (fun h1 => ?_)
  ·have h1 : isName y = false := by simpa using h1
   (repeat (first | ((with_reducible refine VOps.same ?_); (first | (refine VOps.nil ?_; try dsimp only [VThen, VBlock]) | refine VOps.vP (VPure.pick_t rfl rfl rfl) ?_ | refine VOps.passv rfl (by kernel_rfl) rfl ?_))))
   refine VCode.cond_t rfl rfl ?_
   (repeat (first | ((with_reducible refine VOps.same ?_); (first | (refine VOps.nil ?_; try dsimp only [VThen, VBlock]) | refine VOps.vP (VPure.assign rfl rfl) ?_)) | refine VCode.seq ?_ | refine VCode.region rfl ?_))
   refine VCode.give hcx rfl rfl rfl rfl rfl ?_
   rw [decide_eq_false (p := okTexts isName l ∧ a ≤ l.length ∧ l.length ≤ b) (fun h => by rw [(h.1 k y ht).1] at h1; cases h1)]
  ·have h1 : isName y = true := by simpa using h1
   (repeat (first | ((with_reducible refine VOps.same ?_); (first | refine VOps.vP (VPure.move rfl rfl) ?_ | (refine VOps.vP (VPure.cut_take rfl rfl rfl ?b1) ?_; (case b1 => (first | omega | (simp only [List.length_map, List.length_append, List.length_cons, List.length_nil] at *; omega) | (simp; omega))))))))
   refine VOps.pure rfl Try.func76 rfl (by kernel_rfl) rfl rfl rfl rfl rfl rfl rfl (contS_v (l.take k) y (by rw [List.length_take]; omega)) ?_
   (repeat (first | ((with_reducible refine VOps.same ?_); (first | (refine VOps.nil ?_; try dsimp only [VThen, VBlock]) | refine VOps.vP (VPure.pick_f rfl rfl rfl) ?_))))
   refine VCode.cond rfl (fun hp => ?_) (fun hp => ?_)
   ·(repeat (first | ((with_reducible refine VOps.same ?_); (first | (refine VOps.nil ?_; try dsimp only [VThen, VBlock]) | refine VOps.vP (VPure.assign rfl rfl) ?_)) | refine VCode.seq ?_ | refine VCode.region rfl ?_))
    refine VCode.give hcx rfl rfl rfl rfl rfl ?_
    rw [decide_eq_false (p := okTexts isName l ∧ a ≤ l.length ∧ l.length ≤ b) (fun h => (h.1 k y ht).2 ((any_mem _ _).1 hp))]
   ·(repeat (first | ((with_reducible refine VOps.same ?_); (first | (refine VOps.nil ?_; try dsimp only [VThen, VBlock]) | refine VOps.vP (VPure.move rfl rfl) ?_ | refine VOps.vP (VPure.addK rfl rfl rfl (by omega)) ?_)) | refine VCode.region rfl ?_ | refine VCode.skip ?_))
    (refine Less.mk (l := []) hcx ?ss ?hh rfl (by decide) rfl ⟨_, ?_, k + 1, by omega, rfl, hb.step ht h1 (fun h => by rw [(any_mem _ _).2 h] at hp; cases hp), rfl⟩; (case ss => repeat (first | exact SubS.nil | refine SubS.cons rfl rfl ?_ | refine SubS.cons (ciI (by omega)) rfl ?_ | refine SubS.cons (ciB (by assumption)) rfl ?_)); (case hh => repeat (first | exact SubH.nil | refine SubH.cons rfl rfl rfl ?_)))
    omega
 | none =>
  have hge : l.length ≤ k := List.getElem?_eq_none_iff.1 ht
  have hok := hb.full hge
  (repeat (first | ((with_reducible refine VOps.same ?_); (first | (refine VOps.nil ?_; try dsimp only [VThen, VBlock]) | refine VOps.vP (VPure.lss rfl rfl rfl) ?_)) | refine VCode.seq ?_ | refine VCode.region rfl ?_))
  refine VCode.cond_f rfl (decide_eq_false (by omega)) ?_
  (repeat (first | ((with_reducible refine VOps.same ?_); (first | refine VOps.vP (VPure.move rfl rfl) ?_ | refine VOps.vP (VPure.len_map TI.und' rfl rfl) ?_ | refine VOps.vP (VPure.geq rfl rfl rfl) ?_)) | refine VCode.seq ?_ | refine VCode.region rfl ?_ | refine VCode.exit ?_))
  refine VOps.bool (d := 34) rfl (fun h1 => ?_) (fun h1 => ?_)
  ·(repeat (first | ((with_reducible refine VOps.same ?_); (first | (refine VOps.nil ?_; try dsimp only [VThen, VBlock]) | refine VOps.vP (VPure.move rfl rfl) ?_ | refine VOps.vP (VPure.assign rfl rfl) ?_ | refine VOps.vP (VPure.len_map TI.und' rfl rfl) ?_ | refine VOps.vP (VPure.leq rfl rfl rfl) ?_ | refine VOps.vP (VPure.pick_t rfl rfl rfl) ?_))))
   refine VCode.give hcx rfl rfl rfl rfl rfl ?_
   exact congrArg (fun b => V.val (.bool b)) (by rw [decide_eq_decide]; have := of_decide_eq_true h1; exact ⟨fun h => ⟨hok, by omega, by omega⟩, fun h => by omega⟩)
  ·(repeat (first | ((with_reducible refine VOps.same ?_); (first | (refine VOps.nil ?_; try dsimp only [VThen, VBlock]) | refine VOps.vP (VPure.assign rfl rfl) ?_ | refine VOps.vP (VPure.pick_f rfl rfl rfl) ?_ | refine VOps.passv rfl (by kernel_rfl) rfl ?_))))
   refine VCode.give hcx rfl rfl rfl rfl rfl ?_
   rw [decide_eq_false (p := okTexts isName l ∧ a ≤ l.length ∧ l.length ≤ b) (fun h => by have := of_decide_eq_false h1; omega)]
set_option maxHeartbeats 2000000 in
theorem distT_v (l : List ByteArray) (a b : Nat) (hl : l.length ≤ 1000000) (hs : ∀ s ∈ l, s.size ≤ 4000) : VCalls Try.prog 59 [.sl 1 (l.map encS), .val (.int .i64 (a : Int)), .val (.int .i64 (b : Int)), .fn 61 []] [] 0 (Gives (.val (.bool (decide (okTexts isTerm l ∧ a ≤ l.length ∧ l.length ≤ b))))) := by
 refine VCalls.enter (n := 40) Try.func59 rfl rfl (by simp) (fun cx hcx => ?_)
 (repeat (first | ((with_reducible refine VOps.same ?_); (first | (refine VOps.nil ?_; try dsimp only [VThen, VBlock]) | refine VOps.vP (VPure.move rfl rfl) ?_ | refine VOps.vP (VPure.assign rfl rfl) ?_ | refine VOps.vP (VPure.len_map TI.und' rfl rfl) ?_)) | refine VCode.seq ?_ | refine VCode.region rfl ?_ | refine VCode.block ?_))
 refine VCode.loop (fun m st => ∃ k : Nat, k ≤ l.length ∧ m = l.length - k ∧ okTo isTerm l k ∧ st = ⟨[(13, .val (.int .i64 (k : Int))), (12, .val (.int .i64 (l.length : Int))), (11, .sl 1 (l.map encS)), (0, .sl 1 (l.map encS)), (1, .val (.int .i64 (a : Int))), (2, .val (.int .i64 (b : Int))), (3, .fn 61 [])], [], 0⟩) l.length ?_ ?_
 ·(refine Less.mk (l := []) hcx ?ss ?hh rfl (by decide) rfl ⟨0, by omega, by omega, okTo_zero _ _, rfl⟩; (case ss => repeat (first | exact SubS.nil | refine SubS.cons rfl rfl ?_ | refine SubS.cons (ciI (by omega)) rfl ?_ | refine SubS.cons (ciB (by assumption)) rfl ?_)); (case hh => repeat (first | exact SubH.nil | refine SubH.cons rfl rfl rfl ?_)))
 rintro m st ⟨k, hk, rfl, hb, rfl⟩
 cases ht : l[k]? with
 | some y =>
  have hlt : k < l.length := (List.getElem?_eq_some_iff.1 ht).1
  have hy := hs y (List.mem_of_getElem? ht)
  (repeat (first | ((with_reducible refine VOps.same ?_); (first | (refine VOps.nil ?_; try dsimp only [VThen, VBlock]) | refine VOps.vP (VPure.lss rfl rfl rfl) ?_)) | refine VCode.seq ?_ | refine VCode.region rfl ?_))
  refine VCode.cond_t rfl (decide_eq_true (by omega)) ?_
  (repeat (first | ((with_reducible refine VOps.same ?_); (first | (refine VOps.nil ?_; try dsimp only [VThen, VBlock]) | refine VOps.vP (VPure.move rfl rfl) ?_ | refine VOps.vP (VPure.assign rfl rfl) ?_ | refine VOps.vP (VPure.idx_map rfl rfl rfl (by assumption)) ?_ | refine VOps.vV (VLoad.el1 rfl rfl rfl (by rfl)) ?_)) | refine VCode.seq ?_ | refine VCode.region rfl ?_ | refine VCode.block ?_ | refine VCode.skip ?_))
  refine VOps.pure rfl Try.func61 rfl (by kernel_rfl) rfl rfl rfl rfl rfl rfl rfl (term_v y hy) ?_
  (repeat (first | ((with_reducible refine VOps.same ?_); (first | refine VOps.vP (VPure.move rfl rfl) ?_ | refine VOps.vP (VPure.not rfl rfl) ?_))))
  refine VOps.bool (d := 22) rfl (fun h1 => ?_) (fun h1 => ?_)
  ·have h1 : isTerm y = false := by simpa using h1
   (repeat (first | ((with_reducible refine VOps.same ?_); (first | (refine VOps.nil ?_; try dsimp only [VThen, VBlock]) | refine VOps.vP (VPure.pick_t rfl rfl rfl) ?_ | refine VOps.passv rfl (by kernel_rfl) rfl ?_))))
   refine VCode.cond_t rfl rfl ?_
   (repeat (first | ((with_reducible refine VOps.same ?_); (first | (refine VOps.nil ?_; try dsimp only [VThen, VBlock]) | refine VOps.vP (VPure.assign rfl rfl) ?_)) | refine VCode.seq ?_ | refine VCode.region rfl ?_))
   refine VCode.give hcx rfl rfl rfl rfl rfl ?_
   rw [decide_eq_false (p := okTexts isTerm l ∧ a ≤ l.length ∧ l.length ≤ b) (fun h => by rw [(h.1 k y ht).1] at h1; cases h1)]
  ·have h1 : isTerm y = true := by simpa using h1
   (repeat (first | ((with_reducible refine VOps.same ?_); (first | refine VOps.vP (VPure.move rfl rfl) ?_ | (refine VOps.vP (VPure.cut_take rfl rfl rfl ?b1) ?_; (case b1 => (first | omega | (simp only [List.length_map, List.length_append, List.length_cons, List.length_nil] at *; omega) | (simp; omega))))))))
   refine VOps.pure rfl Try.func76 rfl (by kernel_rfl) rfl rfl rfl rfl rfl rfl rfl (contS_v (l.take k) y (by rw [List.length_take]; omega)) ?_
   (repeat (first | ((with_reducible refine VOps.same ?_); (first | (refine VOps.nil ?_; try dsimp only [VThen, VBlock]) | refine VOps.vP (VPure.pick_f rfl rfl rfl) ?_))))
   refine VCode.cond rfl (fun hp => ?_) (fun hp => ?_)
   ·(repeat (first | ((with_reducible refine VOps.same ?_); (first | (refine VOps.nil ?_; try dsimp only [VThen, VBlock]) | refine VOps.vP (VPure.assign rfl rfl) ?_)) | refine VCode.seq ?_ | refine VCode.region rfl ?_))
    refine VCode.give hcx rfl rfl rfl rfl rfl ?_
    rw [decide_eq_false (p := okTexts isTerm l ∧ a ≤ l.length ∧ l.length ≤ b) (fun h => (h.1 k y ht).2 ((any_mem _ _).1 hp))]
   ·(repeat (first | ((with_reducible refine VOps.same ?_); (first | (refine VOps.nil ?_; try dsimp only [VThen, VBlock]) | refine VOps.vP (VPure.move rfl rfl) ?_ | refine VOps.vP (VPure.addK rfl rfl rfl (by omega)) ?_)) | refine VCode.region rfl ?_ | refine VCode.skip ?_))
    (refine Less.mk (l := []) hcx ?ss ?hh rfl (by decide) rfl ⟨_, ?_, k + 1, by omega, rfl, hb.step ht h1 (fun h => by rw [(any_mem _ _).2 h] at hp; cases hp), rfl⟩; (case ss => repeat (first | exact SubS.nil | refine SubS.cons rfl rfl ?_ | refine SubS.cons (ciI (by omega)) rfl ?_ | refine SubS.cons (ciB (by assumption)) rfl ?_)); (case hh => repeat (first | exact SubH.nil | refine SubH.cons rfl rfl rfl ?_)))
    omega
 | none =>
  have hge : l.length ≤ k := List.getElem?_eq_none_iff.1 ht
  have hok := hb.full hge
  (repeat (first | ((with_reducible refine VOps.same ?_); (first | (refine VOps.nil ?_; try dsimp only [VThen, VBlock]) | refine VOps.vP (VPure.lss rfl rfl rfl) ?_)) | refine VCode.seq ?_ | refine VCode.region rfl ?_))
  refine VCode.cond_f rfl (decide_eq_false (by omega)) ?_
  (repeat (first | ((with_reducible refine VOps.same ?_); (first | refine VOps.vP (VPure.move rfl rfl) ?_ | refine VOps.vP (VPure.len_map TI.und' rfl rfl) ?_ | refine VOps.vP (VPure.geq rfl rfl rfl) ?_)) | refine VCode.seq ?_ | refine VCode.region rfl ?_ | refine VCode.exit ?_))
  refine VOps.bool (d := 34) rfl (fun h1 => ?_) (fun h1 => ?_)
  ·(repeat (first | ((with_reducible refine VOps.same ?_); (first | (refine VOps.nil ?_; try dsimp only [VThen, VBlock]) | refine VOps.vP (VPure.move rfl rfl) ?_ | refine VOps.vP (VPure.assign rfl rfl) ?_ | refine VOps.vP (VPure.len_map TI.und' rfl rfl) ?_ | refine VOps.vP (VPure.leq rfl rfl rfl) ?_ | refine VOps.vP (VPure.pick_t rfl rfl rfl) ?_))))
   refine VCode.give hcx rfl rfl rfl rfl rfl ?_
   exact congrArg (fun b => V.val (.bool b)) (by rw [decide_eq_decide]; have := of_decide_eq_true h1; exact ⟨fun h => ⟨hok, by omega, by omega⟩, fun h => by omega⟩)
  ·(repeat (first | ((with_reducible refine VOps.same ?_); (first | (refine VOps.nil ?_; try dsimp only [VThen, VBlock]) | refine VOps.vP (VPure.assign rfl rfl) ?_ | refine VOps.vP (VPure.pick_f rfl rfl rfl) ?_ | refine VOps.passv rfl (by kernel_rfl) rfl ?_))))
   refine VCode.give hcx rfl rfl rfl rfl rfl ?_
   rw [decide_eq_false (p := okTexts isTerm l ∧ a ≤ l.length ∧ l.length ≤ b) (fun h => by have := of_decide_eq_false h1; omega)]
abbrev gO (g : Gr) : O := .cells 25 (gC g)
abbrev symZ (g : Gr) : Int := (g.terms.length : Int) + (g.names.length : Int)
def okRule (g : Gr) (i : Nat) (r : Ru) : Prop := (g.terms.length : Int) ≤ r.left ∧ r.left < (symZ g) ∧ r.right.length ≤ 8 ∧ r ∉ g.rules.take i ∧ ∀ s ∈ r.right, 0 ≤ s ∧ s < (symZ g)
def okRules (g : Gr) : Prop := ∀ (i : Nat) (r : Ru), g.rules[i]? = some r → okRule g i r
noncomputable instance (g : Gr) : Decidable (okRules g) := Classical.propDecidable _
theorem noSyms {g : Gr} {l : List Int} : l.any (noSym (symZ g)) = false ↔ ∀ s ∈ l, 0 ≤ s ∧ s < (symZ g) := by
 rw [List.any_eq_false]
 unfold noSym
 exact ⟨fun h s hs => by have := h s hs; simp at this; omega, fun h s hs => by have := h s hs; simp; omega⟩
structure Sized (g : Gr) : Prop where
 terms : g.terms.length ≤ 4000
 names : g.names.length ≤ 4000
 rules : g.rules.length ≤ 4000
 rights : ∀ r ∈ g.rules, r.right.length ≤ 4000
 tsize : ∀ s ∈ g.terms, s.size ≤ 4000
 nsize : ∀ s ∈ g.names, s.size ≤ 4000
set_option maxHeartbeats 4000000 in
theorem ruled_v (g : Gr) (hg : Sized g) : VCalls Try.prog 62 [gV g] [] 0 (Gives (.val (.bool (decide (1 ≤ g.rules.length ∧ g.rules.length ≤ 60 ∧ okRules g))))) := by
 have ht := hg.terms
 have hn := hg.names
 have hr := hg.rules
 refine VCalls.enterD (n := 62) Try.func62 rfl rfl (by simp) rfl (fun cx hcx => ?_)
 (repeat (first | ((with_reducible refine VOps.same ?_); (first | (refine VOps.nil ?_; try dsimp only [VThen, VBlock]) | refine VOps.vP (VPure.move rfl rfl) ?_ | refine VOps.vP (VPure.assign rfl rfl) ?_ | refine VOps.vP (VPure.len_map TI.und' rfl rfl) ?_ | refine VOps.vP (VPure.field_ptr rfl rfl rfl) ?_ | refine VOps.vV (VLoad.box1 rfl rfl rfl rfl (by rfl) (by decide)) ?_ | refine VOps.vP (VPure.lss rfl rfl rfl) ?_ | refine VOps.box rfl rfl (by kernel_rfl) rfl rfl rfl rfl ?_)) | refine VCode.seq ?_ | refine VCode.region rfl ?_))
 refine VOps.bool (d := 10) rfl (fun h1 => ?_) (fun h1 => ?_)
 ·(repeat (first | ((with_reducible refine VOps.same ?_); (first | (refine VOps.nil ?_; try dsimp only [VThen, VBlock]) | refine VOps.vP (VPure.pick_t rfl rfl rfl) ?_ | refine VOps.passv rfl (by kernel_rfl) rfl ?_))))
  refine VCode.cond_t rfl rfl ?_
  (repeat (first | ((with_reducible refine VOps.same ?_); (first | (refine VOps.nil ?_; try dsimp only [VThen, VBlock]) | refine VOps.vP (VPure.assign rfl rfl) ?_)) | refine VCode.seq ?_ | refine VCode.region rfl ?_))
  refine VCode.retD rfl rfl (.tmp rfl .nil) ?_
  rw [decide_eq_false (p := 1 ≤ g.rules.length ∧ _) (fun h => by have := of_decide_eq_true h1; omega)]; rfl
 (repeat (first | ((with_reducible refine VOps.same ?_); (first | (refine VOps.nil ?_; try dsimp only [VThen, VBlock]) | refine VOps.vP (VPure.len_map TI.und' rfl rfl) ?_ | refine VOps.vP (VPure.field_ptr rfl rfl rfl) ?_ | refine VOps.vV (VLoad.box1 rfl rfl rfl rfl (by rfl) (by decide)) ?_ | refine VOps.vP (VPure.gtr rfl rfl rfl) ?_ | refine VOps.vP (VPure.pick_f rfl rfl rfl) ?_))))
 refine VCode.cond rfl (fun h2 => ?_) (fun h2 => ?_)
 ·(repeat (first | ((with_reducible refine VOps.same ?_); (first | (refine VOps.nil ?_; try dsimp only [VThen, VBlock]) | refine VOps.vP (VPure.assign rfl rfl) ?_)) | refine VCode.seq ?_ | refine VCode.region rfl ?_))
  refine VCode.retD rfl rfl (.tmp rfl .nil) ?_
  rw [decide_eq_false (p := 1 ≤ g.rules.length ∧ _) (fun h => by have := of_decide_eq_true h2; omega)]; rfl
 have h1 := of_decide_eq_false h1
 have h2 := of_decide_eq_false h2
 (repeat (first | ((with_reducible refine VOps.same ?_); (first | (refine VOps.nil ?_; try dsimp only [VThen, VBlock]) | refine VOps.vP (VPure.move rfl rfl) ?_ | refine VOps.vP (VPure.len_map TI.und' rfl rfl) ?_ | refine VOps.vP (VPure.field_ptr rfl rfl rfl) ?_ | refine VOps.vV (VLoad.box1 rfl rfl rfl rfl (by rfl) (by decide)) ?_ | refine VOps.vP (VPure.addK rfl rfl rfl (by omega)) ?_ | refine VOps.alloc rfl rfl (by kernel_rfl) rfl (by kernel_rfl) rfl ?_ | refine VOps.store rfl rfl (by kernel_rfl) rfl rfl rfl rfl rfl rfl (leR (by rfl)) rfl ?_)) | refine VCode.seq ?_ | refine VCode.region rfl ?_ | refine VCode.block ?_ | refine VCode.skip ?_))
 refine VCode.loop (fun m st => ∃ k : Nat, k ≤ g.rules.length ∧ m = g.rules.length - k ∧ (∀ i r, i < k → g.rules[i]? = some r → okRule g i r) ∧ st = ⟨[(26, .val (.int .i64 (k : Int))), (25, .val (.int .i64 (g.rules.length : Int))), (24, .sl 2 (g.rules.map encR)), (3, .ptr 1 0), (1, .ptr 0 0)], [(0, gO g), (1, iO (symZ g))], 2⟩) g.rules.length ?_ ?_
 ·(refine Less.mk (l := [0, 1]) hcx ?ss ?hh rfl (by decide) rfl ⟨0, by omega, by omega, fun i r h => by omega, rfl⟩; (case ss => repeat (first | exact SubS.nil | refine SubS.cons rfl rfl ?_ | refine SubS.cons (ciI (by omega)) rfl ?_ | refine SubS.cons (ciB (by assumption)) rfl ?_)); (case hh => repeat (first | exact SubH.nil | refine SubH.cons rfl rfl rfl ?_)))
 rintro m st ⟨k, hk, rfl, hb, rfl⟩
 cases hq : g.rules[k]? with
 | some r =>
  have hlt : k < g.rules.length := (List.getElem?_eq_some_iff.1 hq).1
  have hrr := hg.rights r (List.mem_of_getElem? hq)
  have hno : ¬ okRule g k r → decide (1 ≤ g.rules.length ∧ g.rules.length ≤ 60 ∧ okRules g) = false := fun hn => decide_eq_false (fun h => hn (h.2.2 k r hq))
  (repeat (first | ((with_reducible refine VOps.same ?_); (first | (refine VOps.nil ?_; try dsimp only [VThen, VBlock]) | refine VOps.vP (VPure.lss rfl rfl rfl) ?_)) | refine VCode.seq ?_ | refine VCode.region rfl ?_))
  refine VCode.cond_t rfl (decide_eq_true (by omega)) ?_
  (repeat (first | ((with_reducible refine VOps.same ?_); (first | (refine VOps.nil ?_; try dsimp only [VThen, VBlock]) | refine VOps.vP (VPure.move rfl rfl) ?_ | refine VOps.vP (VPure.assign rfl rfl) ?_ | refine VOps.vP (VPure.len_map TI.und' rfl rfl) ?_ | refine VOps.vP (VPure.idx_map rfl rfl rfl (by assumption)) ?_ | refine VOps.vP (VPure.field_ptr rfl rfl rfl) ?_ | refine VOps.vV (VLoad.box1 rfl rfl rfl rfl (by rfl) (by decide)) ?_ | refine VOps.vV (VLoad.elA rfl rfl (by rfl) (leR (by rfl))) ?_ | refine VOps.vP (VPure.lss rfl rfl rfl) ?_ | refine VOps.alloc rfl rfl (by kernel_rfl) rfl (by kernel_rfl) rfl ?_ | refine VOps.store rfl rfl (by kernel_rfl) rfl rfl rfl rfl rfl rfl (leR (by rfl)) rfl ?_)) | refine VCode.seq ?_ | refine VCode.region rfl ?_ | refine VCode.draw [] rfl ?_ | refine VCode.block ?_ | refine VCode.skip ?_))
  refine VOps.bool (d := 37) rfl (fun h3 => ?_) (fun h3 => ?_)
  ·(repeat (first | ((with_reducible refine VOps.same ?_); (first | (refine VOps.nil ?_; try dsimp only [VThen, VBlock]) | refine VOps.vP (VPure.move rfl rfl) ?_ | refine VOps.vP (VPure.pick_t rfl rfl rfl) ?_ | refine VOps.passv rfl (by kernel_rfl) rfl ?_))))
   refine VCode.cond_t rfl rfl ?_
   (repeat (first | ((with_reducible refine VOps.same ?_); (first | (refine VOps.nil ?_; try dsimp only [VThen, VBlock]) | refine VOps.vP (VPure.assign rfl rfl) ?_)) | refine VCode.seq ?_ | refine VCode.region rfl ?_))
   refine VCode.retD rfl rfl (.tmp rfl .nil) ?_
   rw [hno (fun h => by have := h.1; have := of_decide_eq_true h3; omega)]; rfl
  (repeat (first | ((with_reducible refine VOps.same ?_); (first | refine VOps.vP (VPure.move rfl rfl) ?_ | refine VOps.vP (VPure.field_ptr rfl rfl rfl) ?_ | refine VOps.vV (VLoad.box1 rfl rfl rfl rfl (by rfl) (by decide)) ?_ | refine VOps.vP (VPure.geq rfl rfl rfl) ?_ | refine VOps.vP (VPure.pick_f rfl rfl rfl) ?_))))
  refine VOps.bool (d := 43) rfl (fun h4 => ?_) (fun h4 => ?_)
  ·(repeat (first | ((with_reducible refine VOps.same ?_); (first | (refine VOps.nil ?_; try dsimp only [VThen, VBlock]) | refine VOps.vP (VPure.move rfl rfl) ?_ | refine VOps.vP (VPure.pick_t rfl rfl rfl) ?_ | refine VOps.passv rfl (by kernel_rfl) rfl ?_))))
   refine VCode.cond_t rfl rfl ?_
   (repeat (first | ((with_reducible refine VOps.same ?_); (first | (refine VOps.nil ?_; try dsimp only [VThen, VBlock]) | refine VOps.vP (VPure.assign rfl rfl) ?_)) | refine VCode.seq ?_ | refine VCode.region rfl ?_))
   refine VCode.retD rfl rfl (.tmp rfl .nil) ?_
   rw [hno (fun h => by have := h.2.1; have := of_decide_eq_true h4; omega)]; rfl
  (repeat (first | ((with_reducible refine VOps.same ?_); (first | refine VOps.vP (VPure.move rfl rfl) ?_ | refine VOps.vP (VPure.len_map TI.und' rfl rfl) ?_ | refine VOps.vP (VPure.field_ptr rfl rfl rfl) ?_ | refine VOps.vV (VLoad.box1 rfl rfl rfl rfl (by rfl) (by decide)) ?_ | refine VOps.vP (VPure.gtr rfl rfl rfl) ?_ | refine VOps.vP (VPure.pick_f rfl rfl rfl) ?_))))
  refine VOps.bool (d := 49) rfl (fun h5 => ?_) (fun h5 => ?_)
  ·(repeat (first | ((with_reducible refine VOps.same ?_); (first | (refine VOps.nil ?_; try dsimp only [VThen, VBlock]) | refine VOps.vP (VPure.pick_t rfl rfl rfl) ?_ | refine VOps.passv rfl (by kernel_rfl) rfl ?_))))
   refine VCode.cond_t rfl rfl ?_
   (repeat (first | ((with_reducible refine VOps.same ?_); (first | (refine VOps.nil ?_; try dsimp only [VThen, VBlock]) | refine VOps.vP (VPure.assign rfl rfl) ?_)) | refine VCode.seq ?_ | refine VCode.region rfl ?_))
   refine VCode.retD rfl rfl (.tmp rfl .nil) ?_
   rw [hno (fun h => by have := h.2.2.1; have := of_decide_eq_true h5; omega)]; rfl
  (repeat (first | ((with_reducible refine VOps.same ?_); (first | refine VOps.vP (VPure.move rfl rfl) ?_ | (refine VOps.vP (VPure.cut_take rfl rfl rfl ?b1) ?_; (case b1 => (first | omega | (simp only [List.length_map, List.length_append, List.length_cons, List.length_nil] at *; omega) | (simp; omega)))) | refine VOps.vP (VPure.field_ptr rfl rfl rfl) ?_ | refine VOps.vV (VLoad.box1 rfl rfl rfl rfl (by rfl) (by decide)) ?_ | refine VOps.vV (VLoad.boxA rfl rfl rfl (by rfl) (leR (by rfl)) (by decide)) ?_))))
  refine VOps.pure rfl Try.func58 rfl (by kernel_rfl) rfl rfl rfl rfl rfl rfl rfl (ghas_v (g.rules.take k) r (by rw [List.length_take]; omega) (fun x hx => by have := hg.rights x (List.mem_of_mem_take hx); omega)) ?_
  (repeat (first | ((with_reducible refine VOps.same ?_); (first | (refine VOps.nil ?_; try dsimp only [VThen, VBlock]) | refine VOps.vP (VPure.pick_f rfl rfl rfl) ?_))))
  refine VCode.cond rfl (fun h6 => ?_) (fun h6 => ?_)
  ·(repeat (first | ((with_reducible refine VOps.same ?_); (first | (refine VOps.nil ?_; try dsimp only [VThen, VBlock]) | refine VOps.vP (VPure.assign rfl rfl) ?_)) | refine VCode.seq ?_ | refine VCode.region rfl ?_))
   refine VCode.retD rfl rfl (.tmp rfl .nil) ?_
   rw [hno (fun h => h.2.2.2.1 ((inR_iff _ _).1 h6))]; rfl
  (repeat (first | ((with_reducible refine VOps.same ?_); (first | refine VOps.vP (VPure.field_ptr rfl rfl rfl) ?_ | refine VOps.vV (VLoad.box1 rfl rfl rfl rfl (by rfl) (by decide)) ?_ | refine VOps.vP (VPure.fnE rfl rfl) ?_)) | refine VCode.seq ?_ | refine VCode.region rfl ?_ | refine VCode.skip ?_))
  (refine VOps.callL (ch := [(0, iO (symZ g))]) [1] rfl Try.func85 rfl (by kernel_rfl) rfl rfl rfl rfl ?hh (by decide) rfl rfl rfl (conN_v (symZ g) r.right (by omega)) rfl (by rfl) rfl ?_; (case hh => repeat (first | exact SubH.nil | refine SubH.cons rfl rfl rfl ?_)))
  (repeat (first | ((with_reducible refine VOps.same ?_); (first | (refine VOps.nil ?_; try dsimp only [VThen, VBlock])))))
  refine VCode.cond rfl (fun h7 => ?_) (fun h7 => ?_)
  ·(repeat (first | ((with_reducible refine VOps.same ?_); (first | (refine VOps.nil ?_; try dsimp only [VThen, VBlock]) | refine VOps.vP (VPure.assign rfl rfl) ?_)) | refine VCode.seq ?_ | refine VCode.region rfl ?_))
   refine VCode.retD rfl rfl (.tmp rfl .nil) ?_
   rw [hno (fun h => by rw [noSyms.2 h.2.2.2.2] at h7; cases h7)]; rfl
  have hok : okRule g k r := ⟨by have := of_decide_eq_false h3; omega, by have := of_decide_eq_false h4; omega, by have := of_decide_eq_false h5; omega, (fun h => by rw [(inR_iff _ _).2 h] at h6; cases h6), noSyms.1 h7⟩
  (repeat (first | ((with_reducible refine VOps.same ?_); (first | (refine VOps.nil ?_; try dsimp only [VThen, VBlock]) | refine VOps.vP (VPure.move rfl rfl) ?_ | refine VOps.vP (VPure.addK rfl rfl rfl (by omega)) ?_)) | refine VCode.region rfl ?_ | refine VCode.skip ?_))
  (refine Less.mk (l := [0, 1]) hcx ?ss ?hh rfl (by decide) rfl ⟨_, ?_, k + 1, by omega, rfl, ?_, rfl⟩; (case ss => repeat (first | exact SubS.nil | refine SubS.cons rfl rfl ?_ | refine SubS.cons (ciI (by omega)) rfl ?_ | refine SubS.cons (ciB (by assumption)) rfl ?_)); (case hh => repeat (first | exact SubH.nil | refine SubH.cons rfl rfl rfl ?_)))
  ·omega
  ·intro i x hi hx
   by_cases e : i = k
   ·subst e; rw [hq] at hx; obtain rfl := Option.some.inj hx; exact hok
   ·exact hb i x (by omega) hx
 | none =>
  have hge : g.rules.length ≤ k := List.getElem?_eq_none_iff.1 hq
  (repeat (first | ((with_reducible refine VOps.same ?_); (first | (refine VOps.nil ?_; try dsimp only [VThen, VBlock]) | refine VOps.vP (VPure.lss rfl rfl rfl) ?_)) | refine VCode.seq ?_ | refine VCode.region rfl ?_))
  refine VCode.cond_f rfl (decide_eq_false (by omega)) ?_
  (repeat (first | ((with_reducible refine VOps.same ?_); (first | (refine VOps.nil ?_; try dsimp only [VThen, VBlock]) | refine VOps.vP (VPure.assign rfl rfl) ?_)) | refine VCode.seq ?_ | refine VCode.region rfl ?_ | refine VCode.exit ?_))
  refine VCode.retD rfl rfl (.tmp rfl .nil) ?_
  rw [decide_eq_true (p := 1 ≤ g.rules.length ∧ g.rules.length ≤ 60 ∧ okRules g) ⟨by omega, by omega, fun i r hi => hb i r (by have := (List.getElem?_eq_some_iff.1 hi).1; omega) hi⟩]; rfl
end Go.Proofs.Ytfjfbapiheehaaa.V
end
section
set_option linter.unusedVariables false
set_option linter.unusedSimpArgs false
namespace Go.Proofs.Ytfjfbapiheehaaa.V
open Go Go.RowKit
def tsyms (g : Gr) (l : List Ru) : List Int := (l.flatMap (·.right)).filter (isT g)
structure GoodG (g : Gr) : Prop where
 names : okTexts isName g.names ∧ 1 ≤ g.names.length ∧ g.names.length ≤ 40
 terms : okTexts isTerm g.terms ∧ 0 ≤ g.terms.length ∧ g.terms.length ≤ 40
 rules : 1 ≤ g.rules.length ∧ g.rules.length ≤ 60 ∧ okRules g
 lefts : rise (g.terms.length : Int) (g.rules.map Ru.left) = some (symZ g)
 syms : rise 0 (tsyms g g.rules) = some (g.terms.length : Int)
noncomputable instance (g : Gr) : Decidable (GoodG g) := Classical.propDecidable _
theorem tsyms_append (g : Gr) (a b : List Ru) : tsyms g (a ++ b) = tsyms g a ++ tsyms g b := by
 unfold tsyms; rw [List.flatMap_append, List.filter_append]
theorem tsyms_succ {g : Gr} {k : Nat} {r : Ru} (h : g.rules[k]? = some r) : tsyms g (g.rules.take (k + 1)) = tsyms g (g.rules.take k) ++ r.right.filter (isT g) := by
 rw [List.take_add_one, h, tsyms_append]
 unfold tsyms; simp
theorem tsyms_len {g : Gr} (h : okRules g) (k : Nat) : (tsyms g (g.rules.take k)).length ≤ 8 * k := by
 induction k with
 | zero => simp [tsyms]
 | succ k ih =>
  cases hq : g.rules[k]? with
  | none =>
   rw [List.take_add_one, hq]
   simp only [Option.toList_none, List.append_nil]
   omega
  | some r =>
   rw [tsyms_succ hq, List.length_append]
   have h1 := (h k r hq).2.2.1
   have h2 := List.length_filter_le (isT g) r.right
   omega
set_option maxHeartbeats 4000000 in
theorem good_v (g : Gr) (hg : Sized g) : VCalls Try.prog 35 [gV g] [] 0 (Gives (.val (.bool (decide (GoodG g))))) := by
 have ht := hg.terms
 have hn := hg.names
 have hr := hg.rules
 refine VCalls.enterD (n := 69) Try.func35 rfl rfl (by simp) rfl (fun cx hcx => ?_)
 (repeat (first | ((with_reducible refine VOps.same ?_); (first | (refine VOps.nil ?_; try dsimp only [VThen, VBlock]) | refine VOps.vP (VPure.assign rfl rfl) ?_ | refine VOps.vP (VPure.field_ptr rfl rfl rfl) ?_ | refine VOps.vV (VLoad.box1 rfl rfl rfl rfl (by rfl) (by decide)) ?_ | refine VOps.box rfl rfl (by kernel_rfl) rfl rfl rfl rfl ?_)) | refine VCode.seq ?_ | refine VCode.region rfl ?_))
 refine VOps.pure rfl Try.func59 rfl (by kernel_rfl) rfl rfl rfl rfl rfl rfl rfl (distN_v g.names 1 40 (by omega) hg.nsize) ?_
 (repeat (first | ((with_reducible refine VOps.same ?_); (first | refine VOps.vP (VPure.move rfl rfl) ?_ | refine VOps.vP (VPure.not rfl rfl) ?_))))
 refine VOps.bool (d := 14) rfl (fun h1 => ?_) (fun h1 => ?_)
 ·(repeat (first | ((with_reducible refine VOps.same ?_); (first | (refine VOps.nil ?_; try dsimp only [VThen, VBlock]) | refine VOps.vP (VPure.move rfl rfl) ?_ | refine VOps.vP (VPure.pick_t rfl rfl rfl) ?_ | refine VOps.passv rfl (by kernel_rfl) rfl ?_))))
  refine VCode.cond_t rfl rfl ?_
  (repeat (first | ((with_reducible refine VOps.same ?_); (first | (refine VOps.nil ?_; try dsimp only [VThen, VBlock]) | refine VOps.vP (VPure.assign rfl rfl) ?_)) | refine VCode.seq ?_ | refine VCode.region rfl ?_))
  refine VCode.retD rfl rfl (.tmp rfl .nil) ?_
  rw [decide_eq_false (p := GoodG g) (fun h => by rw [decide_eq_true h.names] at h1; cases h1)]; rfl
 have h1 := of_decide_eq_true (by simpa only [Bool.not_eq_false'] using h1)
 (repeat (first | ((with_reducible refine VOps.same ?_); (first | refine VOps.vP (VPure.field_ptr rfl rfl rfl) ?_ | refine VOps.vV (VLoad.box1 rfl rfl rfl rfl (by rfl) (by decide)) ?_))))
 refine VOps.pure rfl Try.func59 rfl (by kernel_rfl) rfl rfl rfl rfl rfl rfl rfl (distT_v g.terms 0 40 (by omega) hg.tsize) ?_
 (repeat (first | ((with_reducible refine VOps.same ?_); (first | refine VOps.vP (VPure.move rfl rfl) ?_ | refine VOps.vP (VPure.not rfl rfl) ?_ | refine VOps.vP (VPure.pick_f rfl rfl rfl) ?_))))
 refine VOps.bool (d := 20) rfl (fun h2 => ?_) (fun h2 => ?_)
 ·(repeat (first | ((with_reducible refine VOps.same ?_); (first | (refine VOps.nil ?_; try dsimp only [VThen, VBlock]) | refine VOps.vP (VPure.pick_t rfl rfl rfl) ?_ | refine VOps.passv rfl (by kernel_rfl) rfl ?_))))
  refine VCode.cond_t rfl rfl ?_
  (repeat (first | ((with_reducible refine VOps.same ?_); (first | (refine VOps.nil ?_; try dsimp only [VThen, VBlock]) | refine VOps.vP (VPure.assign rfl rfl) ?_)) | refine VCode.seq ?_ | refine VCode.region rfl ?_))
  refine VCode.retD rfl rfl (.tmp rfl .nil) ?_
  rw [decide_eq_false (p := GoodG g) (fun h => by rw [decide_eq_true h.terms] at h2; cases h2)]; rfl
 have h2 := of_decide_eq_true (by simpa only [Bool.not_eq_false'] using h2)
 (repeat (first | ((with_reducible refine VOps.same ?_); (first | refine VOps.vV (VLoad.boxA rfl rfl rfl (by rfl) (leR (by rfl)) (by decide)) ?_))))
 refine VOps.pure rfl Try.func62 rfl (by kernel_rfl) rfl rfl rfl rfl rfl rfl rfl (ruled_v g hg) ?_
 (repeat (first | ((with_reducible refine VOps.same ?_); (first | (refine VOps.nil ?_; try dsimp only [VThen, VBlock]) | refine VOps.vP (VPure.not rfl rfl) ?_ | refine VOps.vP (VPure.pick_f rfl rfl rfl) ?_))))
 refine VCode.cond rfl (fun h3 => ?_) (fun h3 => ?_)
 ·(repeat (first | ((with_reducible refine VOps.same ?_); (first | (refine VOps.nil ?_; try dsimp only [VThen, VBlock]) | refine VOps.vP (VPure.assign rfl rfl) ?_)) | refine VCode.seq ?_ | refine VCode.region rfl ?_))
  refine VCode.retD rfl rfl (.tmp rfl .nil) ?_
  rw [decide_eq_false (p := GoodG g) (fun h => by rw [decide_eq_true h.rules] at h3; cases h3)]; rfl
 have h3 := of_decide_eq_true (by simpa only [Bool.not_eq_false'] using h3)
 obtain ⟨h4, h5, h6⟩ := h3
 (repeat (first | ((with_reducible refine VOps.same ?_); (first | (refine VOps.nil ?_; try dsimp only [VThen, VBlock]) | refine VOps.vP (VPure.move rfl rfl) ?_ | refine VOps.vP (VPure.assign rfl rfl) ?_ | refine VOps.vP (VPure.len_map TI.und' rfl rfl) ?_ | refine VOps.vP (VPure.field_ptr rfl rfl rfl) ?_ | refine VOps.vV (VLoad.box1 rfl rfl rfl rfl (by rfl) (by decide)) ?_)) | refine VCode.seq ?_ | refine VCode.region rfl ?_ | refine VCode.block ?_ | refine VCode.skip ?_))
 refine VCode.nilObj 3 3 1 rfl ?_
 refine VCode.nilObj 4 3 1 rfl ?_
 refine VCode.loop (fun m st => ∃ k : Nat, k ≤ g.rules.length ∧ m = g.rules.length - k ∧ st = ⟨[(28, .val (.int .i64 (k : Int))), (27, .val (.int .i64 (g.rules.length : Int))), (26, .sl 2 (g.rules.map encR)), (1, .ptr 0 0), (3, .ref 1), (4, .ref 2)], [(0, gO g), (1, .arr 3 1 (((g.rules.take k).map Ru.left).map encI)), (2, .arr 3 1 ((tsyms g (g.rules.take k)).map encI))], 3⟩) g.rules.length ?_ ?_
 ·(refine Less.mk (l := [0, 1, 2]) hcx ?ss ?hh rfl (by decide) rfl ⟨0, by omega, by omega, rfl⟩; (case ss => repeat (first | exact SubS.nil | refine SubS.cons rfl rfl ?_ | refine SubS.cons (ciI (by omega)) rfl ?_ | refine SubS.cons (ciB (by assumption)) rfl ?_)); (case hh => repeat (first | exact SubH.nil | refine SubH.cons rfl rfl rfl ?_)))
 rintro m st ⟨k, hk, rfl, rfl⟩
 have hsl := tsyms_len h6 k
 have htk : (g.rules.take k).length ≤ 60 := by rw [List.length_take]; omega
 have hll : ((g.rules.take k).map Ru.left).length ≤ 60 := by rw [List.length_map, List.length_take]; omega
 cases hq : g.rules[k]? with
 | some r =>
  have hlt : k < g.rules.length := (List.getElem?_eq_some_iff.1 hq).1
  have hrr := (h6 k r hq).2.2.1
  have hts := tsyms_succ hq
  (repeat (first | ((with_reducible refine VOps.same ?_); (first | (refine VOps.nil ?_; try dsimp only [VThen, VBlock]) | refine VOps.vP (VPure.lss rfl rfl rfl) ?_)) | refine VCode.seq ?_ | refine VCode.region rfl ?_))
  refine VCode.cond_t rfl (decide_eq_true (by omega)) ?_
  (repeat (first | ((with_reducible refine VOps.same ?_); (first | (refine VOps.nil ?_; try dsimp only [VThen, VBlock]) | refine VOps.vP (VPure.move rfl rfl) ?_ | refine VOps.vP (VPure.idx_map rfl rfl rfl (by assumption)) ?_ | refine VOps.vP (VPure.field_ptr rfl rfl rfl) ?_ | refine VOps.vV (VLoad.box1 rfl rfl rfl rfl (by rfl) (by decide)) ?_ | refine VOps.vV (VLoad.elA rfl rfl (by rfl) (leR (by rfl))) ?_ | refine VOps.alloc rfl rfl (by kernel_rfl) rfl (by kernel_rfl) rfl ?_ | refine VOps.store rfl rfl (by kernel_rfl) rfl rfl rfl rfl rfl rfl (leR (by rfl)) rfl ?_ | refine VOps.one rfl rfl (by kernel_rfl) rfl (by rfl) (by decide) (by decide) rfl (by rfl) (by rfl) ?_)) | refine VCode.seq ?_ | refine VCode.region rfl ?_ | refine VCode.block ?_ | refine VCode.skip ?_))
  refine VOps.append (zs := ((g.rules.take (k + 1)).map Ru.left).map encI) rfl rfl (by kernel_rfl) rfl (by rfl) (by decide) rfl (.arr rfl) rfl (.arr rfl) (by simp only [List.length_append, List.length_cons, List.length_nil, List.length_map]; unfold most; omega) (by simp only [List.length_append, List.length_cons, List.length_nil, List.length_map]; unfold most; omega) rfl ( by rw [List.take_add_one, hq, List.map_append, List.map_append]; rfl) ?_
  (repeat (first | ((with_reducible refine VOps.same ?_); (first | (refine VOps.nil ?_; try dsimp only [VThen, VBlock]) | refine VOps.vP (VPure.move rfl rfl) ?_ | refine VOps.vP (VPure.assign rfl rfl) ?_ | refine VOps.vP (VPure.len_map TI.und' rfl rfl) ?_ | refine VOps.vP (VPure.field_ptr rfl rfl rfl) ?_ | refine VOps.vV (VLoad.box1 rfl rfl rfl rfl (by rfl) (by decide)) ?_)) | refine VCode.seq ?_ | refine VCode.region rfl ?_ | refine VCode.block ?_))
  refine VCode.hsays 2 (.arr 3 1 ((tsyms g (g.rules.take k) ++ (r.right.take 0).filter (isT g)).map encI)) rfl rfl (by rw [show (r.right.take 0).filter (isT g) = [] from rfl, List.append_nil]) ?_
  refine VCode.loop (fun m st => ∃ j : Nat, j ≤ r.right.length ∧ m = r.right.length - j ∧ st = ⟨[(40, .val (.int .i64 (j : Int))), (39, .val (.int .i64 (r.right.length : Int))), (38, .sl 1 (r.right.map encI)), (28, .val (.int .i64 (k : Int))), (27, .val (.int .i64 (g.rules.length : Int))), (26, .sl 2 (g.rules.map encR)), (1, .ptr 0 0), (3, .ref 1), (4, .ref 2)], [(0, gO g), (1, .arr 3 1 (((g.rules.take (k + 1)).map Ru.left).map encI)), (2, .arr 3 1 ((tsyms g (g.rules.take k) ++ (r.right.take j).filter (isT g)).map encI))], 3⟩) r.right.length ?_ ?_
  ·(refine Less.mk (l := [0, 5, 2]) hcx ?ss ?hh rfl (by decide) rfl ⟨0, by omega, by omega, rfl⟩; (case ss => repeat (first | exact SubS.nil | refine SubS.cons rfl rfl ?_ | refine SubS.cons (ciI (by omega)) rfl ?_ | refine SubS.cons (ciB (by assumption)) rfl ?_)); (case hh => repeat (first | exact SubH.nil | refine SubH.cons rfl rfl rfl ?_)))
  rintro m st ⟨j, hj, rfl, rfl⟩
  have hfl : ((r.right.take j).filter (isT g)).length ≤ 8 := by have := List.length_filter_le (isT g) (r.right.take j); rw [List.length_take] at this; omega
  cases hs : r.right[j]? with
  | some s =>
   have hlt2 : j < r.right.length := (List.getElem?_eq_some_iff.1 hs).1
   have hfs : (r.right.take (j + 1)).filter (isT g) = (r.right.take j).filter (isT g) ++ if isT g s then [s] else [] := by
    rw [List.take_add_one, hs, List.filter_append]
    cases hb : isT g s <;> simp [hb]
   (repeat (first | ((with_reducible refine VOps.same ?_); (first | (refine VOps.nil ?_; try dsimp only [VThen, VBlock]) | refine VOps.vP (VPure.lss rfl rfl rfl) ?_)) | refine VCode.seq ?_ | refine VCode.region rfl ?_))
   refine VCode.cond_t rfl (decide_eq_true (by omega)) ?_
   (repeat (first | ((with_reducible refine VOps.same ?_); (first | (refine VOps.nil ?_; try dsimp only [VThen, VBlock]) | refine VOps.vP (VPure.move rfl rfl) ?_ | refine VOps.vP (VPure.assign rfl rfl) ?_ | refine VOps.vP (VPure.idx_map rfl rfl rfl (by assumption)) ?_ | refine VOps.vV (VLoad.el1 rfl rfl rfl (by rfl)) ?_ | refine VOps.vV (VLoad.boxA rfl rfl rfl (by rfl) (leR (by rfl)) (by decide)) ?_)) | refine VCode.seq ?_ | refine VCode.region rfl ?_ | refine VCode.block ?_ | refine VCode.skip ?_))
   refine VOps.pure rfl Try.func38 rfl (by kernel_rfl) rfl rfl rfl rfl rfl rfl rfl (term1_v g s (by omega)) ?_
   (repeat (first | ((with_reducible refine VOps.same ?_); (first | (refine VOps.nil ?_; try dsimp only [VThen, VBlock])))))
   refine VCode.cond rfl (fun hb => ?_) (fun hb => ?_)
   ·rw [if_pos hb] at hfs
    (repeat (first | ((with_reducible refine VOps.same ?_); (first | refine VOps.vP (VPure.move rfl rfl) ?_ | refine VOps.one rfl rfl (by kernel_rfl) rfl (by rfl) (by decide) (by decide) rfl (by rfl) (by rfl) ?_)) | refine VCode.region rfl ?_))
    refine VOps.append (zs := (tsyms g (g.rules.take k) ++ (r.right.take (j + 1)).filter (isT g)).map encI) rfl rfl (by kernel_rfl) rfl (by rfl) (by decide) rfl (.arr rfl) rfl (.arr rfl) (by simp only [List.length_append, List.length_cons, List.length_nil, List.length_map]; unfold most; omega) (by simp only [List.length_append, List.length_cons, List.length_nil, List.length_map]; unfold most; omega) rfl ( by rw [hfs, ← List.append_assoc, List.map_append (l₂ := [s])]; rfl) ?_
    (repeat (first | ((with_reducible refine VOps.same ?_); (first | (refine VOps.nil ?_; try dsimp only [VThen, VBlock]) | refine VOps.vP (VPure.move rfl rfl) ?_ | refine VOps.vP (VPure.assign rfl rfl) ?_ | refine VOps.vP (VPure.addK rfl rfl rfl (by omega)) ?_)) | refine VCode.region rfl ?_))
    (refine Less.mk (l := [0, 1, 4]) hcx ?ss ?hh rfl (by decide) rfl ⟨_, ?_, j + 1, by omega, rfl, rfl⟩; (case ss => repeat (first | exact SubS.nil | refine SubS.cons rfl rfl ?_ | refine SubS.cons (ciI (by omega)) rfl ?_ | refine SubS.cons (ciB (by assumption)) rfl ?_)); (case hh => repeat (first | exact SubH.nil | refine SubH.cons rfl rfl rfl ?_)))
    omega
   ·rw [if_neg (by rw [hb]; simp), List.append_nil] at hfs
    rw [← hfs]
    (repeat (first | ((with_reducible refine VOps.same ?_); (first | (refine VOps.nil ?_; try dsimp only [VThen, VBlock]) | refine VOps.vP (VPure.move rfl rfl) ?_ | refine VOps.vP (VPure.addK rfl rfl rfl (by omega)) ?_)) | refine VCode.region rfl ?_ | refine VCode.skip ?_))
    (refine Less.mk (l := [0, 1, 2]) hcx ?ss ?hh rfl (by decide) rfl ⟨_, ?_, j + 1, by omega, rfl, rfl⟩; (case ss => repeat (first | exact SubS.nil | refine SubS.cons rfl rfl ?_ | refine SubS.cons (ciI (by omega)) rfl ?_ | refine SubS.cons (ciB (by assumption)) rfl ?_)); (case hh => repeat (first | exact SubH.nil | refine SubH.cons rfl rfl rfl ?_)))
    omega
  | none =>
   have hge : r.right.length ≤ j := List.getElem?_eq_none_iff.1 hs
   rw [List.take_of_length_le hge, ← hts]
   (repeat (first | ((with_reducible refine VOps.same ?_); (first | (refine VOps.nil ?_; try dsimp only [VThen, VBlock]) | refine VOps.vP (VPure.lss rfl rfl rfl) ?_)) | refine VCode.seq ?_ | refine VCode.region rfl ?_))
   refine VCode.cond_f rfl (decide_eq_false (by omega)) ?_
   (repeat (first | ((with_reducible refine VOps.same ?_); (first | (refine VOps.nil ?_; try dsimp only [VThen, VBlock]) | refine VOps.vP (VPure.move rfl rfl) ?_ | refine VOps.vP (VPure.addK rfl rfl rfl (by omega)) ?_)) | refine VCode.region rfl ?_ | refine VCode.exit ?_))
   (refine Less.mk (l := [0, 1, 2]) hcx ?ss ?hh rfl (by decide) rfl ⟨_, ?_, k + 1, by omega, rfl, rfl⟩; (case ss => repeat (first | exact SubS.nil | refine SubS.cons rfl rfl ?_ | refine SubS.cons (ciI (by omega)) rfl ?_ | refine SubS.cons (ciB (by assumption)) rfl ?_)); (case hh => repeat (first | exact SubH.nil | refine SubH.cons rfl rfl rfl ?_)))
   omega
 | none =>
  have hge : g.rules.length ≤ k := List.getElem?_eq_none_iff.1 hq
  rw [List.take_of_length_le hge] at *
  have hll2 : (g.rules.map Ru.left).length ≤ 60 := hll
  (repeat (first | ((with_reducible refine VOps.same ?_); (first | (refine VOps.nil ?_; try dsimp only [VThen, VBlock]) | refine VOps.vP (VPure.lss rfl rfl rfl) ?_)) | refine VCode.seq ?_ | refine VCode.region rfl ?_))
  refine VCode.cond_f rfl (decide_eq_false (by omega)) ?_
  refine VCode.freeze (id := 1) rfl ?_
  refine VCode.freeze (id := 2) rfl ?_
  (repeat (first | ((with_reducible refine VOps.same ?_); (first | (refine VOps.nil ?_; try dsimp only [VThen, VBlock]) | refine VOps.vP (VPure.move rfl rfl) ?_ | refine VOps.vP (VPure.assign rfl rfl) ?_ | refine VOps.vP (VPure.len_map TI.und' rfl rfl) ?_ | refine VOps.vP (VPure.field_ptr rfl rfl rfl) ?_ | refine VOps.vV (VLoad.box1 rfl rfl rfl rfl (by rfl) (by decide)) ?_ | refine VOps.vP (VPure.addK rfl rfl rfl (by omega)) ?_)) | refine VCode.seq ?_ | refine VCode.region rfl ?_ | refine VCode.exit ?_))
  refine VOps.pure rfl Try.func63 rfl (by kernel_rfl) rfl rfl rfl rfl rfl rfl rfl (rising_v (g.rules.map Ru.left) (g.terms.length : Int) (symZ g) (by omega) (by omega) (by omega)) ?_
  (repeat (first | ((with_reducible refine VOps.same ?_); (first | refine VOps.vP (VPure.move rfl rfl) ?_))))
  refine VOps.bool (d := 64) rfl (fun h7 => ?_) (fun h7 => ?_)
  ·(repeat (first | ((with_reducible refine VOps.same ?_); (first | refine VOps.vP (VPure.move rfl rfl) ?_))))
   refine VOps.pure rfl Try.func63 rfl (by kernel_rfl) rfl rfl rfl rfl rfl rfl rfl (rising_v (tsyms g g.rules) 0 (g.terms.length : Int) (by omega) (by omega) (by omega)) ?_
   (repeat (first | ((with_reducible refine VOps.same ?_); (first | (refine VOps.nil ?_; try dsimp only [VThen, VBlock]) | refine VOps.vP (VPure.assign rfl rfl) ?_ | refine VOps.vP (VPure.pick_t rfl rfl rfl) ?_))))
   refine VCode.retD rfl rfl (.tmp rfl .nil) ?_
   exact congrArg (fun b => V.val (.bool b)) (by rw [decide_eq_decide]; exact ⟨fun h => ⟨h1, h2, ⟨h4, h5, h6⟩, of_decide_eq_true h7, h⟩, fun h => h.syms⟩)
  ·(repeat (first | ((with_reducible refine VOps.same ?_); (first | (refine VOps.nil ?_; try dsimp only [VThen, VBlock]) | refine VOps.vP (VPure.assign rfl rfl) ?_ | refine VOps.vP (VPure.pick_f rfl rfl rfl) ?_ | refine VOps.passv rfl (by kernel_rfl) rfl ?_))))
   refine VCode.retD rfl rfl (.tmp rfl .nil) ?_
   rw [decide_eq_false (p := GoodG g) (fun h => by rw [decide_eq_true h.lefts] at h7; cases h7)]; rfl
end Go.Proofs.Ytfjfbapiheehaaa.V
end
section
namespace Go.Proofs.Ytfjfbapiheehaaa.RS
inductive St (τ : Type) where
 | start
 | named (t : τ)
 | body (t : τ) (r : List τ)
section
variable {τ : Type} (kd at_ : τ → Int)
abbrev Out (τ : Type) := List (τ × List τ)
def step (s : St τ × Out τ) (t : τ) : Except (Int × Int) (St τ × Out τ) :=
 match s.1 with
 | .start => if kd t = 1 then .ok (.named t, s.2) else .error (12, at_ t)
 | .named x => if kd t = 3 then .ok (.body x [], s.2) else .error (12, at_ t)
 | .body x r =>
  if kd t = 1 ∨ kd t = 2 then .ok (.body x (r ++ [t]), s.2)
  else if kd t = 4 ∨ kd t = 5 then
   if 60 ≤ s.2.length ∨ 8 < r.length then .error (14, at_ x)
   else .ok (if kd t = 4 then .body x [] else .start, s.2 ++ [(x, r)])
  else .error (12, at_ t)
def steps : St τ × Out τ → List τ → Except (Int × Int) (St τ × Out τ)
 | s, [] => .ok s
 | s, t :: l => match step kd at_ s t with
  | .ok s' => steps s' l
  | .error e => .error e
def fin (e : Int) (s : St τ × Out τ) : Except (Int × Int) (Out τ) :=
 match s.1 with
 | .start => if s.2 = [] then .error (12, e) else .ok s.2
 | _ => .error (12, e)
def run (e : Int) (s : St τ × Out τ) (l : List τ) : Except (Int × Int) (Out τ) :=
 match steps kd at_ s l with
 | .ok s' => fin e s'
 | .error x => .error x
theorem steps_cons (s : St τ × Out τ) (t : τ) (l : List τ) : steps kd at_ s (t :: l) = match step kd at_ s t with
  | .ok s' => steps kd at_ s' l
  | .error e => .error e := rfl
end
section
variable {τ : Type} (kd at_ : τ → Int)
def rights (out : Out τ) : Nat := (out.map fun p => p.2.length).sum
def lefts : St τ × Out τ → Prop
 | (.start, out) => ∀ p ∈ out, kd p.1 = 1
 | (.named x, out) => kd x = 1 ∧ ∀ p ∈ out, kd p.1 = 1
 | (.body x _, out) => kd x = 1 ∧ ∀ p ∈ out, kd p.1 = 1
def toks (is_ end_ : τ) (x : τ × List τ) : List τ := x.1 :: is_ :: (x.2 ++ [end_])
end
end Go.Proofs.Ytfjfbapiheehaaa.RS
end
section
namespace Go.Proofs.Ytfjfbapiheehaaa.P
open Go.RowKit Go.Proofs.YtfjfbapiheehaaaW.PrintWords Go.Proofs.YtfjfbapiheehaaaW.PrintLast Go.Proofs.YtfjfbapiheehaaaW.PrintMore
attribute [local go_sem] max2_int min2_int max_two min_two max_three min_three max_four min_four   -- for this text's walks alone
set_option linter.unusedVariables false
set_option linter.unusedSimpArgs false
def slices_Index_int_int.l0 : Nat → List Int → Int → Int → Int → Option (Int)
 | 0, _, _, _, _ => none
 | k + 1, x0, x1, x7, x8 => if x8 < x7 then (if 0 ≤ x8 then (if x8 < (x0.length : Int) then (if x1 = (rd x0 x8) then (some x8) else (slices_Index_int_int.l0 k x0 x1 x7 (wrap64 (x8 + 1)))) else (none)) else (none)) else (some (-1))
def slices_Index_int_int.f (k : Nat) (l0 : List Int) (a1 : Int) : Option (Int) := slices_Index_int_int.l0 k l0 a1 (l0.length : Int) 0
theorem slices_Index_int_int.mono_l : ∀ k, (∀ y0 y1 y2 y3, LeO (slices_Index_int_int.l0 k y0 y1 y2 y3) (slices_Index_int_int.l0 (k + 1) y0 y1 y2 y3))
 | 0 => fun _ _ _ _ r h => by simp [slices_Index_int_int.l0] at h
 | k + 1 => by
  have ih0 := slices_Index_int_int.mono_l k
  ·intro y0 y1 y2 y3
   unfold slices_Index_int_int.l0
   repeat' first
   | (with_reducible exact ih0 _ _ _ _)
   | (with_reducible exact LeO.refl _)
   | (with_reducible exact LeO.none _)
   | (with_reducible refine LeO.ite ?_ ?_)
   | (with_reducible refine LeO.bind ?_ (fun _ => ?_))
   | exact ih0 _ _ _ _
   | exact LeO.none _
   | refine LeO.ite ?_ ?_
   | refine LeO.bind ?_ (fun _ => ?_)
theorem slices_Index_int_int.mono : ∀ a0 a1 k, LeO (slices_Index_int_int.f k a0 a1) (slices_Index_int_int.f (k + 1) a0 a1) := by
 intro a0 a1 k
 have ih0 := slices_Index_int_int.mono_l k
 unfold slices_Index_int_int.f
 repeat' first
   | (with_reducible exact ih0 _ _ _ _)
   | (with_reducible exact LeO.refl _)
   | (with_reducible exact LeO.none _)
   | (with_reducible refine LeO.ite ?_ ?_)
   | (with_reducible refine LeO.bind ?_ (fun _ => ?_))
   | exact ih0 _ _ _ _
   | exact LeO.none _
   | refine LeO.ite ?_ ?_
   | refine LeO.bind ?_ (fun _ => ?_)
set_option maxHeartbeats 8000000 in
set_option maxRecDepth 100000 in
theorem slices_Index_int_int.calls (k : Nat) (A0 : Option Addr) (c0 : Nat) (l0 : List Int) (a1 : Int) (r : Int) (w : World) (hr0 : Kd.C (Kd.int .i64) w A0 l0.length l0) (hc0 : l0.length ≤ c0) (h : slices_Index_int_int.f k l0 a1 = some r) :
  Calls Try.prog 96 #[.slice A0 l0.length c0, .int .i64 a1] w fun e w' => e = .returned (.int .i64 r) ∧ Drawn0 w w' := by
 have HR0 := Aside0.mk hr0
 have HC0 := Aside0.mk hc0
 clear hr0 hc0
 have H : (slices_Index_int_int.l0 k l0 a1 (l0.length : Int) 0) = some r := h
 clear h
 have H' := Aside0.mk H
 clear H
 go_enter Try.func96, Try.ntmps96
 go_wp2
 go_loopg [8] k (fun kq v8 w' => ∃ (x8_1 : Int), v8 = .int .i64 x8_1 ∧ Aside0 (slices_Index_int_int.l0 kq l0 a1 (l0.length : Int) x8_1 = some r) ∧ Aside0 (kq ≤ k) ∧ Drawn0 w w')
 case atStart => exact ⟨(0), (by first | rfl | (simp; done) | (simp [*]; done)), H', ⟨Nat.le_refl _⟩, by repeat (first | exact Drawn0.refl _ | apply Drawn0.step)⟩
 case round =>
  clear H'
  try clear p2
  obtain ⟨x8_1, rfl, HA, HK1, ⟨m1, rfl⟩⟩ := hrel
  cases gk with
  | zero => exact absurd HA.out (by simp [slices_Index_int_int.l0])
  | succ k1 =>
   have H := HA.out
   clear HA
   simp only [slices_Index_int_int.l0] at H
   by_cases c3 : x8_1 < (l0.length : Int)
   ·rw [if_pos c3] at H
    have c3b0 : decide (x8_1 < (l0.length : Int)) = true := decide_eq_true c3
    clear c3
    by_cases c4 : 0 ≤ x8_1
    ·rw [if_pos c4] at H
     have c4b0 : decide (0 ≤ x8_1) = true := decide_eq_true c4
     clear c4
     by_cases c5 : x8_1 < (l0.length : Int)
     ·rw [if_pos c5] at H
      have c5b0 : decide (x8_1 < (l0.length : Int)) = true := decide_eq_true c5
      clear c5
      by_cases c6 : a1 = (rd l0 x8_1)
      ·rw [if_pos c6] at H
       have c6b0 : (a1 == (rd l0 x8_1)) = true := beq_iff_eq.mpr c6
       have c6b1 : (a1 != (rd l0 x8_1)) = false := bne_eq_false_iff_eq.mpr c6
       clear c6
       obtain rfl := Option.some.inj H
       have p101 : 0 ≤ (x8_1 : Int) := of_decide_eq_true (by first | (with_reducible assumption) | assumption)
       have q101 : x8_1 < (l0.length : Int) := of_decide_eq_true (by first | (with_reducible assumption) | assumption)
       obtain ⟨ad101, e101, hx101_0⟩ := Kd.at_int HR0.out x8_1 p101 q101
       cases e101
       replace p101 := eq_true p101
       replace q101 := eq_true q101
       go_wp2
       go_ret
       exact ⟨by first | rfl | (simp; done) | (simp [*]; done), by repeat (first | exact Drawn0.refl _ | apply Drawn0.step)⟩
      ·rw [if_neg c6] at H
       have c6b0 : (a1 == (rd l0 x8_1)) = false := beq_eq_false_iff_ne.mpr c6
       have c6b1 : (a1 != (rd l0 x8_1)) = true := bne_iff_ne.mpr c6
       have H' := Aside0.mk H
       clear H
       have p101 : 0 ≤ (x8_1 : Int) := of_decide_eq_true (by first | (with_reducible assumption) | assumption)
       have q101 : x8_1 < (l0.length : Int) := of_decide_eq_true (by first | (with_reducible assumption) | assumption)
       obtain ⟨ad101, e101, hx101_0⟩ := Kd.at_int HR0.out x8_1 p101 q101
       cases e101
       replace p101 := eq_true p101
       replace q101 := eq_true q101
       go_wp2
       go_roundg k1
       case measure => have := HK1.out; omega
       case rel => exact ⟨(wrap64 (x8_1 + 1)), (by first | rfl | (simp; done) | (simp [*]; done)), H', ⟨by have := HK1.out; omega⟩, by repeat (first | exact Drawn0.refl _ | apply Drawn0.step)⟩
     ·rw [if_neg c5] at H
      exact absurd H (by simp)
    ·rw [if_neg c4] at H
     exact absurd H (by simp)
   ·rw [if_neg c3] at H
    have c3b0 : decide (x8_1 < (l0.length : Int)) = false := decide_eq_false c3
    clear c3
    obtain rfl := Option.some.inj H
    go_wp2
    go_ret
    exact ⟨by first | rfl | (simp; done) | (simp [*]; done), by repeat (first | exact Drawn0.refl _ | apply Drawn0.step)⟩
end Go.Proofs.Ytfjfbapiheehaaa.P
end
section
namespace Go.Proofs.Ytfjfbapiheehaaa.P
open Go.RowKit Go.Proofs.YtfjfbapiheehaaaW.PrintWords Go.Proofs.YtfjfbapiheehaaaW.PrintLast Go.Proofs.YtfjfbapiheehaaaW.PrintMore
attribute [local go_sem] max2_int min2_int max_two min_two max_three min_three max_four min_four   -- for this text's walks alone
set_option linter.unusedVariables false
set_option linter.unusedSimpArgs false
def slices_Contains_int_int.f (k : Nat) (l0 : List Int) (a1 : Int) : Option (Bool) := (slices_Index_int_int.f k l0 a1).bind fun t101 => (some (decide (t101 ≥ 0)))
theorem slices_Contains_int_int.mono : ∀ a0 a1 k, LeO (slices_Contains_int_int.f k a0 a1) (slices_Contains_int_int.f (k + 1) a0 a1) := by
 intro a0 a1 k
 unfold slices_Contains_int_int.f
 repeat' first
   | (with_reducible exact slices_Index_int_int.mono _ _ _)
   | (with_reducible exact LeO.refl _)
   | (with_reducible exact LeO.none _)
   | (with_reducible refine LeO.ite ?_ ?_)
   | (with_reducible refine LeO.bind ?_ (fun _ => ?_))
   | exact slices_Index_int_int.mono _ _ _
   | exact LeO.none _
   | refine LeO.ite ?_ ?_
   | refine LeO.bind ?_ (fun _ => ?_)
set_option maxHeartbeats 8000000 in
set_option maxRecDepth 100000 in
theorem slices_Contains_int_int.calls (k : Nat) (A0 : Option Addr) (c0 : Nat) (l0 : List Int) (a1 : Int) (r : Bool) (w : World) (hr0 : Kd.C (Kd.int .i64) w A0 l0.length l0) (hc0 : l0.length ≤ c0) (h : slices_Contains_int_int.f k l0 a1 = some r) :
  Calls Try.prog 95 #[.slice A0 l0.length c0, .int .i64 a1] w fun e w' => e = .returned (.bool r) ∧ Drawn0 w w' := by
 have HR0 := Aside0.mk hr0
 have HC0 := Aside0.mk hc0
 clear hr0 hc0
 have H : ((slices_Index_int_int.f k l0 a1).bind fun t101 => (some (decide (t101 ≥ 0)))) = some r := h
 clear h
 replace H := Option.bind_eq_some_iff.mp H
 obtain ⟨t101, A30, H⟩ := H
 replace H : (some (decide (t101 ≥ 0))) = some r := H
 have A3 := Aside0.mk A30
 clear A30
 obtain rfl := Option.some.inj H
 go_enter Try.func95, Try.ntmps95
 go_wp2_with (first | ((with_reducible refine gate_callee (f := 96) rfl ?_); refine goesL_ (some 7) rfl rfl Try.func96 (by kernel_rfl) rfl #[.slice A0 l0.length c0, .int .i64 a1] rfl (by (try simp only [List.map_toArray, List.map_cons, List.map_nil]); first | done | rfl | (simp only [List.length_drop, List.length_take]; rfl)) ?_; (with_reducible refine (slices_Index_int_int.calls k _ _ l0 a1 t101 _ ?side1 ?side2 A3.out).mono ?_); (case side1 => repeat (first | exact HR0.out | (with_reducible refine Kd.C_alloc ?_ _) | (with_reducible refine Kd.C_drewN ?_ _) | (with_reducible refine Kd.C_drew ?_))); (case side2 => exact HC0.out); rintro e w' ⟨rfl, ⟨nd, rfl⟩⟩; refine ⟨_, rfl, ?_⟩))
 go_ret
 exact ⟨by first | rfl | (simp; done) | (simp [*]; done), by repeat (first | exact Drawn0.refl _ | apply Drawn0.step)⟩
end Go.Proofs.Ytfjfbapiheehaaa.P
end
