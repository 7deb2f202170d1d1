/- What D needs of this session's own texts, part 11: put together by wip/dce.py. -/
import Derived.Test.YtfjfbapiheehaaaK10D
section
set_option linter.unusedVariables false
set_option linter.unusedSimpArgs false
namespace Go.Proofs.Ytfjfbapiheehaaa.V
open Go Go.RowKit Go.Proofs.Ytfjfbapiheehaaa.DG
def rowNil : List N := [.dat (.val (.slice none 0 0))]
def rowsP (c : N) (n i : Nat) : List (List N) := List.replicate i [c] ++ List.replicate (n - i) rowNil
theorem rowsP_len {c : N} {n i : Nat} (h : i ≤ n) : (rowsP c n i).length = n := by unfold rowsP; simp; omega
theorem rowsP_get {c : N} {n i : Nat} (h : i < n) : ((rowsP c n i)[i]?).bind (·[0]?) = some (.dat (.val (.slice none 0 0))) := by
 unfold rowsP
 rw [List.getElem?_append_right (by simp), List.length_replicate, Nat.sub_self, List.getElem?_replicate, if_pos (by omega)]; rfl
theorem rowsP_put {c : N} {n i : Nat} (h : i < n) : putN (rowsP c n i) i 0 c = rowsP c n (i + 1) := by
 unfold putN rowsP
 have e : n - i = (n - (i + 1)) + 1 := by omega
 rw [e, List.replicate_succ, List.replicate_succ' (n := i)]
 apply List.ext_getElem?
 intro k
 rw [List.getElem?_modify, List.append_assoc]
 rcases Nat.lt_trichotomy k i with hk | hk | hk
 ·rw [List.getElem?_append_left (by simp; omega), List.getElem?_append_left (by simp; omega)]
  have hne : ¬ i = k := by omega
  simp [hne]
 ·subst hk
  rw [List.getElem?_append_right (by simp), List.getElem?_append_right (by simp)]
  simp [rowNil]
 ·rw [List.getElem?_append_right (by simp; omega), List.getElem?_append_right (by simp; omega)]
  have hne : ¬ i = k := by omega
  simp only [hne, if_false, List.length_replicate]
  have e2 : k - i = (k - i - 1) + 1 := by omega
  rw [e2, List.getElem?_cons_succ, List.singleton_append, List.getElem?_cons_succ]
  simp
structure Mat (n : Nat) (R : Nat → Nat → Prop) (W : List (List Bool)) : Prop where
 len : W.length = n
 row : ∀ (i : Nat) (x : List Bool), W[i]? = some x → x.length = n ∧ ∀ j, x.getD j false = true ↔ R i j
theorem Mat.get {n : Nat} {R : Nat → Nat → Prop} {W : List (List Bool)} (h : Mat n R W) {i : Nat} (hi : i < n) : ∃ x, W[i]? = some x ∧ x.length = n ∧ ∀ j, x.getD j false = true ↔ R i j :=
 have h1 := List.getElem?_eq_getElem (l := W) (show i < W.length by rw [h.len]; exact hi)
 ⟨_, h1, h.row i _ h1⟩
theorem Mat.set {n : Nat} {R R' : Nat → Nat → Prop} {W : List (List Bool)} (h : Mat n R W) {i : Nat} {x : List Bool} (hi : i < n) (hx : x.length = n) (h1 : ∀ j, x.getD j false = true ↔ R' i j) (h2 : ∀ i', i' ≠ i → i' < n → ∀ j, R i' j ↔ R' i' j) : Mat n R' (W.set i x) := by
 refine ⟨by rw [List.length_set]; exact h.len, fun i' y hy => ?_⟩
 rw [List.getElem?_set] at hy
 by_cases e : i = i'
 ·subst e
  rw [if_pos rfl, if_pos (by rw [h.len]; exact hi)] at hy
  obtain rfl := Option.some.inj hy
  exact ⟨hx, h1⟩
 ·rw [if_neg e] at hy
  have hl := (List.getElem?_eq_some_iff.1 hy).1
  obtain ⟨a, b⟩ := h.row i' y hy
  exact ⟨a, fun j => (b j).trans (h2 i' (fun q => e q.symm) (by rw [← h.len]; exact hl) j)⟩
theorem Mat.mono {n : Nat} {R R' : Nat → Nat → Prop} {W : List (List Bool)} (h : Mat n R W) (h2 : ∀ i', i' < n → ∀ j, R i' j ↔ R' i' j) : Mat n R' W :=
 ⟨h.len, fun i y hy => let ⟨a, b⟩ := h.row i y hy; ⟨a, fun j => (b j).trans (h2 i (by rw [← h.len]; exact (List.getElem?_eq_some_iff.1 hy).1) j)⟩⟩
theorem set_getD {x : List Bool} {j : Nat} (hj : j < x.length) (b : Bool) (j' : Nat) : (x.set j b).getD j' false = if j' = j then b else x.getD j' false := by
 rw [List.getD_eq_getElem?_getD, List.getElem?_set]
 by_cases e : j = j'
 ·subst e; rw [if_pos rfl, if_pos hj, if_pos rfl]; rfl
 ·rw [if_neg e, if_neg (fun q => e q.symm), ← List.getD_eq_getElem?_getD]
theorem mat_F (n : Nat) : Mat n (fun _ _ => False) (List.replicate n (List.replicate n false)) := by
 refine ⟨List.length_replicate, fun i x h => ?_⟩
 obtain rfl := List.eq_of_mem_replicate (List.mem_of_getElem? h)
 refine ⟨List.length_replicate, fun j => ?_⟩
 rw [List.getD_eq_getElem?_getD, List.getElem?_replicate]
 split <;> simp
def upTo (g : Gr) (w : List Spot) (k : Nat) (i j : Nat) : Prop := ∃ z ∈ (spots g).take k, isIn w z = false ∧ edge g z = (i, j)
theorem upTo_zero (g : Gr) (w : List Spot) (i j : Nat) : upTo g w 0 i j ↔ False := by
 unfold upTo
 constructor
 ·rintro ⟨z, hz, _⟩; cases hz
 ·exact fun h => h.elim
theorem upTo_succ {g : Gr} {w : List Spot} {k : Nat} {x : Spot} (h : (spots g)[k]? = some x) (i j : Nat) : upTo g w (k + 1) i j ↔ upTo g w k i j ∨ (isIn w x = false ∧ edge g x = (i, j)) := by
 unfold upTo
 rw [List.take_add_one, h]
 constructor
 ·rintro ⟨z, hz, h1, h2⟩
  rcases List.mem_append.1 hz with hz | hz
  ·exact .inl ⟨z, hz, h1, h2⟩
  ·have : z = x := by simpa using hz
   subst this
   exact .inr ⟨h1, h2⟩
 ·rintro (⟨z, hz, h1, h2⟩ | ⟨h1, h2⟩)
  ·exact ⟨z, List.mem_append_left _ hz, h1, h2⟩
  ·exact ⟨x, List.mem_append_right _ (by simp), h1, h2⟩
theorem upTo_all {g : Gr} {w : List Spot} {k : Nat} (h : (spots g).length ≤ k) (i j : Nat) : upTo g w k i j ↔ Step g w i j := by
 unfold upTo
 rw [List.take_of_length_le h]
 constructor
 ·rintro ⟨z, hz, h1, h2⟩
  refine List.mem_map.2 ⟨z, mem_restS.2 ⟨hz, fun k => ?_⟩, h2⟩
  rw [(isIn_iff w z).2 k] at h1; cases h1
 ·intro hs
  obtain ⟨z, hz, e⟩ := List.mem_map.1 (show (i, j) ∈ (restS g w).map (edge g) from hs)
  obtain ⟨h1, h2⟩ := mem_restS.1 hz
  refine ⟨z, h1, ?_, e⟩
  rw [Bool.eq_false_iff]
  exact fun k => h2 ((isIn_iff w z).1 k)
theorem step_lt {g : Gr} {w : List Spot} {a b : Nat} (h : Step g w a b) : a < g.names.length ∧ b < g.names.length := edges_lt h
def rnd (E : Nat → Nat → Prop) (k i : Nat) (a b : Nat) : Prop := if a < i then Via E (k + 1) a b else Via E k a b
theorem via_same {E : Nat → Nat → Prop} (k b : Nat) : Via E (k + 1) k b ↔ Via E k k b := ⟨fun h => h.elim id fun h => h.2, .inl⟩
theorem via_skip {E : Nat → Nat → Prop} {k a : Nat} (h : ¬ Via E k a k) (b : Nat) : Via E (k + 1) a b ↔ Via E k a b := ⟨fun q => q.elim id fun q => (h q.1).elim, .inl⟩
theorem via_go {E : Nat → Nat → Prop} {k a : Nat} (h : Via E k a k) (b : Nat) : Via E (k + 1) a b ↔ Via E k a b ∨ Via E k k b := ⟨fun q => q.elim .inl fun q => .inr q.2, fun q => q.elim .inl fun q => .inr ⟨h, q⟩⟩
theorem rnd_k {E : Nat → Nat → Prop} (k i b : Nat) : rnd E k i k b ↔ Via E k k b := by
 unfold rnd
 split
 ·exact via_same k b
 ·exact Iff.rfl
def rowJ (E : Nat → Nat → Prop) (k a j : Nat) (x : List Bool) : Prop := ∀ b, x.getD b false = true ↔ if b < j then Via E (k + 1) a b else Via E k a b
theorem rowJ_k {E : Nat → Nat → Prop} {k a j : Nat} {x : List Bool} (h : rowJ E k a j x) : x.getD k false = true ↔ Via E k a k := by
 rw [h k]
 split
 ·exact ⟨fun q => q.elim id fun q => q.1, .inl⟩
 ·exact Iff.rfl
theorem rowJ_done {E : Nat → Nat → Prop} {k a j n : Nat} {x : List Bool} (h : rowJ E k a j x) (hd : n ≤ j ∨ ¬ Via E k a k) (hx : x.length = n) (hE : ∀ a b, Via E (k + 1) a b → b < n) : ∀ b, x.getD b false = true ↔ Via E (k + 1) a b := by
 intro b
 rw [h b]
 split
 ·exact Iff.rfl
 ·rename_i hb
  rcases hd with hd | hd
  ·constructor
   ·exact .inl
   ·intro q; have := hE a b q; omega
  ·exact (via_skip hd b).symm
theorem rowJ_step {E : Nat → Nat → Prop} {k a j : Nat} {x : List Bool} {r : Bool} (h : rowJ E k a j x) (hj : j < x.length) (hk : Via E k a k) (hr : r = true ↔ Via E k k j) : rowJ E k a (j + 1) (x.set j (x.getD j false || r)) := by
 intro b
 rw [set_getD hj]
 by_cases e : b = j
 ·subst e
  rw [if_pos rfl, if_pos (by omega), Bool.or_eq_true, via_go hk, hr, h b, if_neg (by omega)]
 ·rw [if_neg e, h b]
  by_cases hb : b < j
  ·rw [if_pos hb, if_pos (by omega)]
  ·rw [if_neg hb, if_neg (by omega)]
theorem via_lt {E : Nat → Nat → Prop} {n : Nat} (hE : ∀ a b, E a b → a < n ∧ b < n) (m : Nat) {a b : Nat} (h : Via E m a b) : b < n := by
 obtain ⟨c, hc⟩ := (via_path m h).last
 exact (hE _ _ hc).2
theorem mat_on {g : Gr} (hG : GoodG g) {w : List Spot} {W : List (List Bool)} (h : Mat g.names.length (Via (Step g w) g.names.length) W) : W = onOf g w := by
 apply List.ext_getElem?
 intro i
 by_cases hi : i < g.names.length
 ·obtain ⟨x, hx, hl, hr⟩ := h.get hi
  rw [hx, onOf_get hG w hi]
  congr 1
  have hrl : (rowOf g w i).length = g.names.length := (rowOf_is g w i).1
  apply List.ext_getElem?
  intro j
  by_cases hj : j < g.names.length
  ·rw [cell_get hG w hi hj, List.getElem?_eq_getElem (by omega)]
   congr 1
   have e : x[j]'(by omega) = x.getD j false := by rw [List.getD_eq_getElem?_getD, List.getElem?_eq_getElem (by omega)]; rfl
   rw [e, Bool.eq_iff_iff, hr j, cell_on hG w hi]
   exact ⟨via_path _, fun p => path_via _ (fun a b e => step_lt e) p⟩
  ·rw [List.getElem?_eq_none (by omega), List.getElem?_eq_none (by omega)]
 ·rw [List.getElem?_eq_none (by rw [h.len]; omega), List.getElem?_eq_none (by rw [onOf_len hG]; omega)]
theorem mat_skip {g : Gr} {w : List Spot} {n k : Nat} {x : Spot} {W : List (List Bool)} (hq : (spots g)[k]? = some x) (hin : isIn w x = true) (hM : Mat n (upTo g w k) W) : Mat n (upTo g w (k + 1)) W :=
 hM.mono fun i _ j => by
  rw [upTo_succ hq, hin]
  exact ⟨.inl, fun h => h.elim id fun h => by cases h.1⟩
theorem mat_add {g : Gr} {w : List Spot} {n k a b : Nat} {x : Spot} {W : List (List Bool)} {y : List Bool} (hq : (spots g)[k]? = some x) (hin : isIn w x = false) (he : edge g x = (a, b)) (hM : Mat n (upTo g w k) W) (ha : a < n) (hb : b < n) (hy : W[a]? = some y) : Mat n (upTo g w (k + 1)) (W.set a (y.set b true)) := by
 obtain ⟨hl, hr⟩ := hM.row a y hy
 refine hM.set ha (by rw [List.length_set]; exact hl) (fun j => ?_) (fun i' hi' _ j => ?_)
 ·rw [set_getD (by omega), upTo_succ hq, he]
  by_cases e : j = b
  ·subst e; rw [if_pos rfl]; exact ⟨fun _ => .inr ⟨hin, rfl⟩, fun _ => rfl⟩
  ·rw [if_neg e, hr j]
   refine ⟨.inl, fun h => h.elim id fun h => ?_⟩
   injection h.2 with _ h2
   exact absurd h2.symm e
 ·rw [upTo_succ hq, he]
  refine ⟨.inl, fun h => h.elim id fun h => ?_⟩
  injection h.2 with h2 _
  exact absurd h2.symm hi'
theorem putN_self {rows : List (List N)} {i j : Nat} {c c' : N} (h : (rows[i]?).bind (·[j]?) = some c') : ((putN rows i j c)[i]?).bind (·[j]?) = some c := by
 obtain ⟨q, hq, hj⟩ := Option.bind_eq_some_iff.1 h
 unfold putN
 rw [List.getElem?_modify, hq]
 simp only [if_true, Option.map_eq_map, Option.map_some, Option.bind_some]
 rw [List.getElem?_set, if_pos rfl, if_pos (List.getElem?_eq_some_iff.1 hj).1]
theorem putN_twice (rows : List (List N)) (i j : Nat) (c d : N) : putN (putN rows i j c) i j d = putN rows i j d := by
 unfold putN
 apply List.ext_getElem?
 intro k
 rw [List.getElem?_modify, List.getElem?_modify, List.getElem?_modify]
 cases rows[k]? with
 | none => rfl
 | some q =>
  by_cases e : i = k
  ·simp [e]
  ·simp [e]
def rowBo (x : List Bool) : List N := [.own 4 1 (x.map encB)]
theorem putN_same {W : List (List Bool)} {k : Nat} {x : List Bool} (h : W[k]? = some x) : putN (W.map rowBo) k 0 (.own 4 1 (x.map encB)) = W.map rowBo := by
 rw [putN_map (u' := x) h rfl]
 congr 1
 apply List.ext_getElem?
 intro i
 rw [List.getElem?_set]
 by_cases e : k = i
 ·subst e; rw [if_pos rfl, if_pos (List.getElem?_eq_some_iff.1 h).1, h]
 ·rw [if_neg e]
theorem rowBo_out (W : List (List Bool)) : ((W.map rowBo).map fun r => r.map N.toD) = W.map encRow := by
 rw [List.map_map]; rfl
end Go.Proofs.Ytfjfbapiheehaaa.V
end
section
set_option linter.unusedVariables false
set_option linter.unusedSimpArgs false
namespace Go.Proofs.Ytfjfbapiheehaaa.V
open Go Go.RowKit Go.Proofs.Ytfjfbapiheehaaa.DG
abbrev BO (rows : List (List N)) (hole : Option (Nat × Nat × Nat)) : O := .nest 33 1 rows hole
theorem mat_row {E : Nat → Nat → Prop} {n k i : Nat} {W : List (List Bool)} {x : List Bool} (hM : Mat n (rnd E k i) W) (hi : i < n) (hx : x.length = n) (h : ∀ b, x.getD b false = true ↔ Via E (k + 1) i b) : Mat n (rnd E k (i + 1)) (W.set i x) := by
 refine hM.set hi hx (fun b => ?_) (fun i' hi' _ b => ?_)
 ·rw [h b]; unfold rnd; rw [if_pos (by omega)]
 ·unfold rnd
  by_cases e : i' < i
  ·rw [if_pos e, if_pos (by omega)]
  ·rw [if_neg e, if_neg (by omega)]
set_option maxRecDepth 20000 in
set_option maxHeartbeats 16000000 in
theorem ron_v (g : Gr) (w : List Spot) (hg : Sized g) (hw : w.length ≤ 1000000) (hG : GoodG g) : VCalls Try.prog 15 [gV g, sV w] [] 0 (Gives (.sl 1 ((onOf g w).map encRow))) := by
 have ht := hg.terms
 have hn := hg.names
 have hsl := spots_len g
 refine VCalls.enterD (n := 126) Try.func15 rfl rfl (by simp) rfl (fun cx hcx => ?_)
 (repeat (first | ((with_reducible refine VOps.same ?_); (first | (refine VOps.nil ?_; try dsimp only [VThen, VBlock]) | refine VOps.vP (VPure.assign rfl rfl) ?_ | refine VOps.vV (VLoad.boxA rfl rfl rfl (by rfl) (leR (by rfl)) (by decide)) ?_ | refine VOps.box rfl rfl (by kernel_rfl) rfl rfl rfl rfl ?_)) | refine VCode.seq ?_ | refine VCode.region rfl ?_))
 refine VOps.pure rfl Try.func26 rfl (by kernel_rfl) rfl rfl rfl rfl rfl rfl rfl (rgood_v g hg) ?_
 (repeat (first | ((with_reducible refine VOps.same ?_); (first | (refine VOps.nil ?_; try dsimp only [VThen, VBlock]) | refine VOps.vP (VPure.not rfl rfl) ?_))))
 refine VCode.cond_f rfl (by rw [decide_eq_true hG]; rfl) ?_
 (repeat (first | ((with_reducible refine VOps.same ?_); (first | (refine VOps.nil ?_; try dsimp only [VThen, VBlock]) | refine VOps.vP (VPure.move rfl rfl) ?_ | refine VOps.vP (VPure.assign rfl rfl) ?_ | refine VOps.vP (VPure.len_map TI.und' rfl rfl) ?_ | refine VOps.vP (VPure.field_ptr rfl rfl rfl) ?_ | refine VOps.vV (VLoad.box1 rfl rfl rfl rfl (by rfl) (by decide)) ?_)) | refine VCode.seq ?_ | refine VCode.region rfl ?_ | refine VCode.draw [] rfl ?_ | refine VCode.skip ?_))
 (refine VOps.make (f := (fun _ : Unit => [D.val (.slice none 0 0)])) (a := ()) rfl rfl (by kernel_rfl) rfl (by kernel_rfl) (by rfl) (by decide) rfl rfl ?b1 ?b2 (by rfl) ?_; (case b1 => unfold most; (first | omega | (simp only [List.length_map, List.length_append, List.length_cons, List.length_nil] at *; omega) | (simp; omega))); (case b2 => unfold most; (first | omega | (simp only [List.length_map, List.length_append, List.length_cons, List.length_nil] at *; omega) | (simp; omega))))
 (repeat (first | ((with_reducible refine VOps.same ?_); (first | (refine VOps.nil ?_; try dsimp only [VThen, VBlock]) | refine VOps.vP (VPure.assign rfl rfl) ?_)) | refine VCode.seq ?_ | refine VCode.region rfl ?_ | refine VCode.block ?_))
 refine VCode.turn (id := 1) (rows := rowsP (.own 4 1 ((List.replicate g.names.length false).map encB)) g.names.length 0) (fun _ => rowNil) rfl ?h1 ?h2 ?_
 case h1 =>
  intro row hrow
  rw [List.map_replicate] at hrow
  rw [List.eq_of_mem_replicate hrow]
  exact .cons (.dat _) .nil
 case h2 => unfold rowsP; simp
 refine VCode.loop (fun m st => ∃ i : Nat, i ≤ g.names.length ∧ m = g.names.length - i ∧ st = ⟨[(8, .val (.int .i64 (i : Int))), (7, .ref 1), (6, .val (.int .i64 (g.names.length : Int))), (5, .val (.int .i64 (g.terms.length : Int))), (1, sV w), (2, .ptr 0 0)], [(0, gO g), (1, BO (rowsP (.own 4 1 ((List.replicate g.names.length false).map encB)) g.names.length i) none)], 2⟩) g.names.length ?_ ?_
 ·(refine Less.mk (l := [0, 2]) hcx ?ss ?hh rfl (by decide) rfl ⟨0, by omega, by omega, rfl⟩; (case ss => repeat (first | exact SubS.nil | refine SubS.cons rfl rfl ?_ | refine SubS.cons (ciI (by omega)) rfl ?_ | refine SubS.cons (ciB (by assumption)) rfl ?_)); (case hh => repeat (first | exact SubH.nil | refine SubH.cons rfl rfl rfl ?_)))
 rintro m st ⟨i, hi, rfl, rfl⟩
 by_cases hil : i < g.names.length
 ·(repeat (first | ((with_reducible refine VOps.same ?_); (first | (refine VOps.nil ?_; try dsimp only [VThen, VBlock]) | refine VOps.vP (VPure.move rfl rfl) ?_ | refine VOps.vP (VPure.lss rfl rfl rfl) ?_)) | refine VCode.seq ?_ | refine VCode.region rfl ?_))
  refine VCode.cond_t rfl (decide_eq_true (by omega)) ?_
  (repeat (first | ((with_reducible refine VOps.same ?_); (first | refine VOps.vP (VPure.move rfl rfl) ?_)) | refine VCode.seq ?_ | refine VCode.region rfl ?_ | refine VCode.block ?_ | refine VCode.skip ?_))
  (refine VOps.make (f := encB) (a := false) rfl rfl (by kernel_rfl) rfl (by kernel_rfl) (by rfl) (by decide) rfl rfl ?b1 ?b2 (by rfl) ?_; (case b1 => unfold most; (first | omega | (simp only [List.length_map, List.length_append, List.length_cons, List.length_nil] at *; omega) | (simp; omega))); (case b2 => unfold most; (first | omega | (simp only [List.length_map, List.length_append, List.length_cons, List.length_nil] at *; omega) | (simp; omega))))
  refine VOps.vP (VPure.idx_nest rfl rfl rfl rfl (by omega) (by rw [rowsP_len hi]; omega)) ?_
  refine VOps.store_nest (k := i) (j := 0) rfl rfl (by kernel_rfl) rfl rfl rfl rfl (by simp) ⟨by rw [rowsP_len hi]; omega, by decide⟩ (.inr ⟨rfl, _, rowsP_get hil⟩) ?_
  refine VOps.unfocus (id := 1) (id' := 2) (i := i) (j := 0) (ys := (List.replicate g.names.length false).map encB) rfl rfl ⟨by rw [rowsP_len hi]; omega, by decide⟩ (rowsP_put hil) ?_
  (repeat (first | ((with_reducible refine VOps.same ?_); (first | (refine VOps.nil ?_; try dsimp only [VThen, VBlock]) | refine VOps.vP (VPure.move rfl rfl) ?_ | refine VOps.vP (VPure.assign rfl rfl) ?_ | refine VOps.vP (VPure.addK rfl rfl rfl (by omega)) ?_)) | refine VCode.region rfl ?_))
  (refine Less.mk (l := [0, 3]) hcx ?ss ?hh rfl (by decide) rfl ⟨_, ?_, i + 1, by omega, rfl, rfl⟩; (case ss => repeat (first | exact SubS.nil | refine SubS.cons rfl rfl ?_ | refine SubS.cons (ciI (by omega)) rfl ?_ | refine SubS.cons (ciB (by assumption)) rfl ?_)); (case hh => repeat (first | exact SubH.nil | refine SubH.cons rfl rfl rfl ?_)))
  omega
 have e0 : rowsP (.own 4 1 ((List.replicate g.names.length false).map encB)) g.names.length g.names.length = (List.replicate g.names.length (List.replicate g.names.length false)).map rowBo := by unfold rowsP rowBo; simp
 rw [show i = g.names.length by omega, e0]
 clear hil hi e0
 (repeat (first | ((with_reducible refine VOps.same ?_); (first | (refine VOps.nil ?_; try dsimp only [VThen, VBlock]) | refine VOps.vP (VPure.move rfl rfl) ?_ | refine VOps.vP (VPure.lss rfl rfl rfl) ?_)) | refine VCode.seq ?_ | refine VCode.region rfl ?_))
 refine VCode.cond_f rfl (decide_eq_false (by omega)) ?_
 (repeat (first | ((with_reducible refine VOps.same ?_); (first | refine VOps.vV (VLoad.boxA rfl rfl rfl (by rfl) (leR (by rfl)) (by decide)) ?_)) | refine VCode.seq ?_ | refine VCode.region rfl ?_ | refine VCode.exit ?_))
 refine VOps.gives rfl Try.func19 rfl (by kernel_rfl) rfl rfl rfl rfl rfl rfl rfl rfl (rspots_v g hg) ?_
 (repeat (first | ((with_reducible refine VOps.same ?_); (first | (refine VOps.nil ?_; try dsimp only [VThen, VBlock]) | refine VOps.vP (VPure.assign rfl rfl) ?_)) | refine VCode.seq ?_ | refine VCode.region rfl ?_ | refine VCode.block ?_))
 refine VCode.loop (fun m st => ∃ (k : Nat) (W : List (List Bool)), k ≤ (spots g).length ∧ m = (spots g).length - k ∧ Mat g.names.length (upTo g w k) W ∧ st = ⟨[(10, .val (.int .i64 (k : Int))), (9, sV (spots g)), (7, .ref 1), (6, .val (.int .i64 (g.names.length : Int))), (5, .val (.int .i64 (g.terms.length : Int))), (1, sV w), (2, .ptr 0 0)], [(0, gO g), (1, BO (W.map rowBo) none)], 2⟩) (spots g).length ?_ ?_
 ·(refine Less.mk (l := [0, 1]) hcx ?ss ?hh rfl (by decide) rfl ⟨0, _, by omega, by omega, (mat_F g.names.length).mono (fun i _ j => (upTo_zero g w i j).symm), rfl⟩; (case ss => repeat (first | exact SubS.nil | refine SubS.cons rfl rfl ?_ | refine SubS.cons (ciI (by omega)) rfl ?_ | refine SubS.cons (ciB (by assumption)) rfl ?_)); (case hh => repeat (first | exact SubH.nil | refine SubH.cons rfl rfl rfl ?_)))
 rintro m st ⟨k, W, hk, rfl, hM, rfl⟩
 cases hq : (spots g)[k]? with
 | some x =>
  have hlt : k < (spots g).length := (List.getElem?_eq_some_iff.1 hq).1
  obtain ⟨_, i1, j1, r1, s1, a1, b1, hsp⟩ := spot_at (List.mem_of_getElem? hq)
  have hr1 := hsp.hr
  have hs1 := hsp.hs
  have hl1 := hsp.hl
  have hy1 := hsp.hy
  have ha1 := hsp.ha
  have hb1 := hsp.hb
  have he1 := hsp.he
  have hr1l := (List.getElem?_eq_some_iff.1 hr1).1
  have hs1l := (List.getElem?_eq_some_iff.1 hs1).1
  have hrl := (hG.rules.2.2 i1 r1 hr1).2.2.1
  have e1 : r1.left - (g.terms.length : Int) = (a1 : Int) := by omega
  have e2 : s1 - (g.terms.length : Int) = (b1 : Int) := by omega
  obtain rfl := hsp.hx
  obtain ⟨y, hy, hyl, hyr⟩ := hM.get ha1
  have hWl := hM.len
  have hyb : y[b1]? = some (y[b1]'(by omega)) := List.getElem?_eq_getElem _
  (repeat (first | ((with_reducible refine VOps.same ?_); (first | (refine VOps.nil ?_; try dsimp only [VThen, VBlock]) | refine VOps.vP (VPure.move rfl rfl) ?_ | refine VOps.vP (VPure.len_map TI.und' rfl rfl) ?_ | refine VOps.vP (VPure.lss rfl rfl rfl) ?_)) | refine VCode.seq ?_ | refine VCode.region rfl ?_))
  refine VCode.cond_t rfl (decide_eq_true (by omega)) ?_
  (repeat (first | ((with_reducible refine VOps.same ?_); (first | refine VOps.vP (VPure.move rfl rfl) ?_ | refine VOps.vP (VPure.idx_map rfl rfl rfl (by assumption)) ?_ | refine VOps.vV (VLoad.elA rfl rfl (by rfl) (leR (by rfl))) ?_)) | refine VCode.seq ?_ | refine VCode.region rfl ?_ | refine VCode.block ?_ | refine VCode.skip ?_))
  refine VOps.pure rfl Try.func28 rfl (by kernel_rfl) rfl rfl rfl rfl rfl rfl rfl (has_v w ((i1 : Int), (j1 : Int)) hw) ?_
  (repeat (first | ((with_reducible refine VOps.same ?_); (first | (refine VOps.nil ?_; try dsimp only [VThen, VBlock]) | refine VOps.vP (VPure.not rfl rfl) ?_))))
  refine VCode.cond rfl (fun hb => ?_) (fun hb => ?_)
  ·(repeat (first | refine VCode.seq ?_))
   refine VCode.draw [2] rfl ?_
   (repeat (first | ((with_reducible refine VOps.same ?_); (first | (refine VOps.nil ?_; try dsimp only [VThen, VBlock]) | refine VOps.vP (VPure.move rfl rfl) ?_ | refine VOps.vP (VPure.idx_map rfl rfl rfl (by assumption)) ?_ | refine VOps.vP (VPure.field_el rfl rfl) ?_ | refine VOps.vP (VPure.field_ptr rfl rfl rfl) ?_ | refine VOps.vV (VLoad.el1 rfl rfl rfl (by rfl)) ?_ | refine VOps.vV (VLoad.box1 rfl rfl rfl rfl (by rfl) (by decide)) ?_ | refine VOps.vV (VLoad.elA rfl rfl (by rfl) (leR (by rfl))) ?_ | refine VOps.alloc rfl rfl (by kernel_rfl) rfl (by kernel_rfl) rfl ?_ | refine VOps.store rfl rfl (by kernel_rfl) rfl rfl rfl rfl rfl rfl (leR (by rfl)) rfl ?_))))
   refine VCode.focus (id := 1) a1 0 rfl (rows_map (f := rowBo) hy rfl) ?_
   refine VCode.draw [3] rfl ?_
   (repeat (first | ((with_reducible refine VOps.same ?_); (first | refine VOps.vP (VPure.move rfl rfl) ?_ | refine VOps.vP (VPure.field_ptr rfl rfl rfl) ?_ | refine VOps.vV (VLoad.box1 rfl rfl rfl rfl (by rfl) (by decide)) ?_ | refine VOps.vP (VPure.subK rfl rfl rfl (by omega)) ?_ | (refine VOps.vP (VPure.idx_nest rfl rfl rfl rfl ?b1 ?b2) ?_; (case b1 => (first | omega | (simp only [List.length_map, List.length_append, List.length_cons, List.length_nil] at *; omega) | (simp; omega))); (case b2 => (first | omega | (simp only [List.length_map, List.length_append, List.length_cons, List.length_nil] at *; omega) | (simp; omega))))))))
   refine VOps.says (d := 65) (v := .ael 4 (a1 * 1)) rfl (by rw [e1]; rfl) ?_
   (repeat (first | ((with_reducible refine VOps.same ?_); (first | refine VOps.vP (VPure.move rfl rfl) ?_ | refine VOps.vP (VPure.idx_map rfl rfl rfl (by assumption)) ?_ | (refine VOps.vP (VPure.idx_arr rfl rfl rfl rfl ?b1 ?b2) ?_; (case b1 => (first | omega | (simp only [List.length_map, List.length_append, List.length_cons, List.length_nil] at *; omega) | (simp; omega))); (case b2 => (first | omega | (simp only [List.length_map, List.length_append, List.length_cons, List.length_nil] at *; omega) | (simp; omega)))) | refine VOps.vP (VPure.field_el rfl rfl) ?_ | refine VOps.vP (VPure.field_ptr rfl rfl rfl) ?_ | refine VOps.vV (VLoad.el1 rfl rfl rfl (by rfl)) ?_ | refine VOps.vV (VLoad.box1 rfl rfl rfl rfl (by rfl) (by decide)) ?_ | refine VOps.vP (VPure.subK rfl rfl rfl (by omega)) ?_ | (refine VOps.vV (VLoad.hole rfl rfl rfl (by rfl) ?b1 rfl (by decide)) ?_; (case b1 => exact ⟨by (first | omega | (simp only [List.length_map, List.length_append, List.length_cons, List.length_nil] at *; omega) | (simp; omega)), by decide⟩))))))
   refine VOps.store_arrm (u' := true) (ys := y.set b1 true) (k := b1) (j := 0) rfl rfl (by kernel_rfl) rfl rfl rfl rfl (by rw [e2]; simp) hyb rfl rfl (by show 0 + 1 ≤ 1; omega) (by rfl) rfl ?_
   refine VOps.nil ?_
   try dsimp only [VThen, VBlock]
   refine VCode.unfocus (id := 4) rfl rfl ⟨by rw [List.length_map]; omega, by decide⟩ (putN_map (u' := y.set b1 true) hy rfl) ?_
   (repeat (first | ((with_reducible refine VOps.same ?_); (first | (refine VOps.nil ?_; try dsimp only [VThen, VBlock]) | refine VOps.vP (VPure.move rfl rfl) ?_ | refine VOps.vP (VPure.assign rfl rfl) ?_ | refine VOps.vP (VPure.addK rfl rfl rfl (by omega)) ?_)) | refine VCode.region rfl ?_))
   (refine Less.mk (l := [0, 5]) hcx ?ss ?hh rfl (by decide) rfl ⟨_, ?_, k + 1, W.set a1 (y.set b1 true), by omega, rfl, mat_add hq (by simpa using hb) he1 hM ha1 hb1 hy, rfl⟩; (case ss => repeat (first | exact SubS.nil | refine SubS.cons rfl rfl ?_ | refine SubS.cons (ciI (by omega)) rfl ?_ | refine SubS.cons (ciB (by assumption)) rfl ?_)); (case hh => repeat (first | exact SubH.nil | refine SubH.cons rfl rfl rfl ?_)))
   omega
  ·have hb : isIn w ((i1 : Int), (j1 : Int)) = true := by simpa using hb
   (repeat (first | ((with_reducible refine VOps.same ?_); (first | (refine VOps.nil ?_; try dsimp only [VThen, VBlock]) | refine VOps.vP (VPure.move rfl rfl) ?_ | refine VOps.vP (VPure.assign rfl rfl) ?_ | refine VOps.vP (VPure.addK rfl rfl rfl (by omega)) ?_)) | refine VCode.region rfl ?_ | refine VCode.skip ?_))
   (refine Less.mk (l := [0, 1]) hcx ?ss ?hh rfl (by decide) rfl ⟨_, ?_, k + 1, W, by omega, rfl, mat_skip hq hb hM, rfl⟩; (case ss => repeat (first | exact SubS.nil | refine SubS.cons rfl rfl ?_ | refine SubS.cons (ciI (by omega)) rfl ?_ | refine SubS.cons (ciB (by assumption)) rfl ?_)); (case hh => repeat (first | exact SubH.nil | refine SubH.cons rfl rfl rfl ?_)))
   omega
 | none =>
  have hge : (spots g).length ≤ k := List.getElem?_eq_none_iff.1 hq
  replace hM : Mat g.names.length (Via (Step g w) 0) W := hM.mono fun i _ j => upTo_all hge i j
  (repeat (first | ((with_reducible refine VOps.same ?_); (first | (refine VOps.nil ?_; try dsimp only [VThen, VBlock]) | refine VOps.vP (VPure.move rfl rfl) ?_ | refine VOps.vP (VPure.len_map TI.und' rfl rfl) ?_ | refine VOps.vP (VPure.lss rfl rfl rfl) ?_)) | refine VCode.seq ?_ | refine VCode.region rfl ?_))
  refine VCode.cond_f rfl (decide_eq_false (by omega)) ?_
  (repeat (first | ((with_reducible refine VOps.same ?_); (first | (refine VOps.nil ?_; try dsimp only [VThen, VBlock]) | refine VOps.vP (VPure.assign rfl rfl) ?_)) | refine VCode.seq ?_ | refine VCode.region rfl ?_ | refine VCode.block ?_ | refine VCode.exit ?_))
  have hE : ∀ a b, Step g w a b → a < g.names.length ∧ b < g.names.length := fun a b e => step_lt e
  have hend : ∀ W, Mat g.names.length (Via (Step g w) g.names.length) W → W = onOf g w := fun W h => mat_on hG h
  generalize Step g w = E at hM hE hend
  refine VCode.loop (fun m st => ∃ (k : Nat) (W : List (List Bool)), k ≤ g.names.length ∧ m = g.names.length - k ∧ Mat g.names.length (Via E k) W ∧ st = ⟨[(12, .val (.int .i64 (k : Int))), (7, .ref 1), (6, .val (.int .i64 (g.names.length : Int)))], [(0, gO g), (1, BO (W.map rowBo) none)], 2⟩) g.names.length ?_ ?_
  ·(refine Less.mk (l := [0, 1]) hcx ?ss ?hh rfl (by decide) rfl ⟨0, W, by omega, by omega, hM, rfl⟩; (case ss => repeat (first | exact SubS.nil | refine SubS.cons rfl rfl ?_ | refine SubS.cons (ciI (by omega)) rfl ?_ | refine SubS.cons (ciB (by assumption)) rfl ?_)); (case hh => repeat (first | exact SubH.nil | refine SubH.cons rfl rfl rfl ?_)))
  clear hM hk hq hge W k
  rintro m st ⟨k, W, hk, rfl, hM, rfl⟩
  by_cases hkl : k < g.names.length
  ·(repeat (first | ((with_reducible refine VOps.same ?_); (first | (refine VOps.nil ?_; try dsimp only [VThen, VBlock]) | refine VOps.vP (VPure.move rfl rfl) ?_ | refine VOps.vP (VPure.lss rfl rfl rfl) ?_)) | refine VCode.seq ?_ | refine VCode.region rfl ?_))
   refine VCode.cond_t rfl (decide_eq_true (by omega)) ?_
   (repeat (first | ((with_reducible refine VOps.same ?_); (first | (refine VOps.nil ?_; try dsimp only [VThen, VBlock]) | refine VOps.vP (VPure.assign rfl rfl) ?_)) | refine VCode.seq ?_ | refine VCode.region rfl ?_ | refine VCode.block ?_ | refine VCode.skip ?_))
   refine VCode.loop (fun m st => ∃ (i : Nat) (W : List (List Bool)), i ≤ g.names.length ∧ m = g.names.length - i ∧ Mat g.names.length (rnd E k i) W ∧ st = ⟨[(13, .val (.int .i64 (i : Int))), (12, .val (.int .i64 (k : Int))), (7, .ref 1), (6, .val (.int .i64 (g.names.length : Int)))], [(0, gO g), (1, BO (W.map rowBo) none)], 2⟩) g.names.length ?_ ?_
   ·(refine Less.mk (l := [0, 1]) hcx ?ss ?hh rfl (by decide) rfl ⟨0, W, by omega, by omega, hM.mono (fun i' _ j => by unfold rnd; rw [if_neg (Nat.not_lt_zero i')]), rfl⟩; (case ss => repeat (first | exact SubS.nil | refine SubS.cons rfl rfl ?_ | refine SubS.cons (ciI (by omega)) rfl ?_ | refine SubS.cons (ciB (by assumption)) rfl ?_)); (case hh => repeat (first | exact SubH.nil | refine SubH.cons rfl rfl rfl ?_)))
   clear hM W
   rintro m st ⟨i, W, hi, rfl, hM, rfl⟩
   by_cases hil : i < g.names.length
   ·obtain ⟨x0, hx0, hx0l, hx0r⟩ := hM.get hil
    obtain ⟨R, hR, hRl, hRr⟩ := hM.get hkl
    replace hRr : ∀ j, R.getD j false = true ↔ Via E k k j := fun j => (hRr j).trans (rnd_k k i j)
    have hJ0 : rowJ E k i 0 x0 := fun b => by rw [hx0r b]; unfold rnd; rw [if_neg (Nat.lt_irrefl i), if_neg (Nat.not_lt_zero b)]
    have hWl := hM.len
    (repeat (first | ((with_reducible refine VOps.same ?_); (first | (refine VOps.nil ?_; try dsimp only [VThen, VBlock]) | refine VOps.vP (VPure.move rfl rfl) ?_ | refine VOps.vP (VPure.lss rfl rfl rfl) ?_)) | refine VCode.seq ?_ | refine VCode.region rfl ?_))
    refine VCode.cond_t rfl (decide_eq_true (by omega)) ?_
    (repeat (first | ((with_reducible refine VOps.same ?_); (first | (refine VOps.nil ?_; try dsimp only [VThen, VBlock]) | refine VOps.vP (VPure.assign rfl rfl) ?_)) | refine VCode.seq ?_ | refine VCode.region rfl ?_ | refine VCode.block ?_ | refine VCode.skip ?_))
    refine VCode.focus (id := 1) i 0 rfl (rows_map (f := rowBo) hx0 rfl) ?_
    by_cases hik : i = k
    ·obtain ⟨rows, hrows⟩ : ∃ rows, rows = W.map rowBo := ⟨_, rfl⟩
     have hrl : rows.length = g.names.length := by rw [hrows, List.length_map]; exact hWl
     rw [← hrows]
     refine VCode.loop (fun m st => ∃ (j : Nat) (x : List Bool), j ≤ g.names.length ∧ m = g.names.length - j ∧ x.length = g.names.length ∧ rowJ E k i j x ∧ st = ⟨[(14, .val (.int .i64 (j : Int))), (13, .val (.int .i64 (i : Int))), (12, .val (.int .i64 (k : Int))), (7, .ref 1), (6, .val (.int .i64 (g.names.length : Int)))], [(0, gO g), (1, BO rows (some (i, 0, 2))), (2, .arr 4 1 ((x).map encB))], 3⟩) g.names.length ?_ ?_
     ·(refine Less.mk (l := [0, 3, 2]) hcx ?ss ?hh rfl (by decide) rfl ⟨0, x0, by omega, by omega, hx0l, hJ0, rfl⟩; (case ss => repeat (first | exact SubS.nil | refine SubS.cons rfl rfl ?_ | refine SubS.cons (ciI (by omega)) rfl ?_ | refine SubS.cons (ciB (by assumption)) rfl ?_)); (case hh => repeat (first | exact SubH.nil | refine SubH.cons rfl rfl rfl ?_)))
     rintro m st ⟨j, x, hj, rfl, hxl, hJ, rfl⟩
     have hxk : x[k]? = some (x.getD k false) := by rw [List.getD_eq_getElem?_getD, List.getElem?_eq_getElem (by omega)]; rfl
     by_cases hjl : j < g.names.length
     ·obtain ⟨bj, hbj, hbd⟩ : ∃ b, x[j]? = some b ∧ x.getD j false = b := ⟨_, List.getElem?_eq_getElem (by omega), by rw [List.getD_eq_getElem?_getD, List.getElem?_eq_getElem (by omega)]; rfl⟩
      (repeat (first | ((with_reducible refine VOps.same ?_); (first | refine VOps.vP (VPure.move rfl rfl) ?_ | refine VOps.vP (VPure.lss rfl rfl rfl) ?_)) | refine VCode.seq ?_ | refine VCode.region rfl ?_))
      refine VOps.says (d := 92) (v := .val (.bool true)) rfl (by rw [decide_eq_true (by omega)]) ?_
      (repeat (first | ((with_reducible refine VOps.same ?_); (first | (refine VOps.nil ?_; try dsimp only [VThen, VBlock]) | refine VOps.vP (VPure.move rfl rfl) ?_ | refine VOps.vP (VPure.idx_arrm rfl rfl rfl rfl (by assumption)) ?_ | refine VOps.vV (VLoad.arr1m rfl rfl rfl (by rfl) (by assumption) (by rfl) rfl (by decide)) ?_ | refine VOps.vP (VPure.pick_t rfl rfl rfl) ?_ | (refine VOps.vP (VPure.idx_nest rfl rfl rfl rfl ?b1 ?b2) ?_; (case b1 => (first | omega | (simp only [List.length_map, List.length_append, List.length_cons, List.length_nil] at *; omega) | (simp; omega))); (case b2 => (first | omega | (simp only [List.length_map, List.length_append, List.length_cons, List.length_nil] at *; omega) | (simp; omega)))) | (refine VOps.vV (VLoad.hole rfl rfl rfl (by rfl) ?b1 rfl (by decide)) ?_; (case b1 => exact ⟨by (first | omega | (simp only [List.length_map, List.length_append, List.length_cons, List.length_nil] at *; omega) | (simp; omega)), by decide⟩))))))
      refine VCode.cond rfl (fun hc => ?_) (fun hc => ?_)
      ·have hV : Via E k i k := (rowJ_k hJ).1 hc
       have hstep := rowJ_step (r := bj) hJ (by omega) hV (by rw [← hbd, hJ j, if_neg (Nat.lt_irrefl j), hik])
       rw [hbd] at hstep
       (repeat (first | refine VCode.seq ?_ | refine VCode.block ?_ | refine VCode.skip ?_))
       cases bj with
       | true =>
        refine VCode.inTo ⟨[(14, .val (.int .i64 (j : Int))), (13, .val (.int .i64 (i : Int))), (12, .val (.int .i64 (k : Int))), (7, .ref 1), (6, .val (.int .i64 (g.names.length : Int)))], [(0, gO g), (1, BO rows (some (i, 0, 2))), (2, .arr 4 1 ((x.set j true).map encB))], 3⟩ ?_ ?_
        ·refine VCode.drawAny [2] (by kernel_rfl) rfl ?_
         refine VAny.pureI (i := 0) rfl rfl (by kernel_rfl) rfl (VPure.move rfl rfl) ?_
         refine VAny.pureI (i := 1) rfl rfl (by kernel_rfl) rfl (VPure.move rfl rfl) ?_
         refine VAny.pureI (i := 2) rfl rfl (by kernel_rfl) rfl (VPure.idx_nest rfl rfl rfl rfl (by omega) (by omega)) ?_
         refine VAny.loadI (i := 3) rfl rfl (by kernel_rfl) rfl (VLoad.hole rfl rfl rfl (by rfl) ⟨by omega, by decide⟩ rfl (by decide)) ?_
         refine VAny.pureI (i := 4) rfl rfl (by kernel_rfl) rfl (VPure.move rfl rfl) ?_
         refine VAny.pureI (i := 5) rfl rfl (by kernel_rfl) rfl (VPure.move rfl rfl) ?_
         refine VAny.pureI (i := 6) rfl rfl (by kernel_rfl) rfl (VPure.move rfl rfl) ?_
         refine VAny.pureI (i := 7) rfl rfl (by kernel_rfl) rfl (VPure.idx_nest rfl rfl rfl rfl (by omega) (by omega)) ?_
         refine VAny.loadI (i := 8) rfl rfl (by kernel_rfl) rfl (VLoad.hole rfl rfl rfl (by rfl) ⟨by omega, by decide⟩ rfl (by decide)) ?_
         refine VAny.pureI (i := 9) rfl rfl (by kernel_rfl) rfl (VPure.move rfl rfl) ?_
         refine VAny.pureI (i := 10) rfl rfl (by kernel_rfl) rfl (VPure.idx_arrm rfl rfl rfl rfl hbj) ?_
         refine VAny.movesI (is := [11]) (by kernel_rfl) (by simp) rfl (all1 ?_)
         ·refine VMv.load rfl rfl rfl (VLoad.arr1m rfl rfl rfl (by rfl) hbj (by rfl) rfl (by decide)) ?_
          refine VAny.pureI (i := 12) rfl rfl (by kernel_rfl) rfl (VPure.move rfl rfl) ?_
          refine VAny.passI (i := 13) rfl rfl (by kernel_rfl) rfl ?_
          refine VAny.passI (i := 14) rfl rfl (by kernel_rfl) rfl ?_
          refine VAny.passI (i := 15) rfl rfl (by kernel_rfl) rfl ?_
          refine VAny.passI (i := 16) rfl rfl (by kernel_rfl) rfl ?_
          refine VAny.passI (i := 17) rfl rfl (by kernel_rfl) rfl ?_
          refine VAny.passI (i := 18) rfl rfl (by kernel_rfl) rfl ?_
          refine VAny.passI (i := 19) rfl rfl (by kernel_rfl) rfl ?_
          refine VAny.pureI (i := 20) rfl rfl (by kernel_rfl) rfl (VPure.pick_t rfl rfl rfl) ?_
          refine VAny.pureI (i := 21) rfl rfl (by kernel_rfl) rfl (VPure.idx_arrm rfl rfl rfl rfl hbj) ?_
          refine VAny.movesI (is := [22]) (by kernel_rfl) (by simp) rfl (all1 ?_)
          ·refine VMv.store_arrm (u' := true) (ys := x.set j true) rfl rfl rfl (by rfl) rfl rfl rfl rfl (by rfl) hbj rfl rfl (leR (by rfl)) (by rfl) rfl ?_
           refine VAny.done ?_
           (refine Less.mk (l := [0, 1, 2]) hcx ?ss ?hh rfl (by decide) rfl rfl; (case ss => repeat (first | exact SubS.nil | refine SubS.cons rfl rfl ?_ | refine SubS.cons (ciI (by omega)) rfl ?_ | refine SubS.cons (ciB (by assumption)) rfl ?_)); (case hh => repeat (first | exact SubH.nil | refine SubH.cons rfl rfl rfl ?_)))
        (repeat (first | ((with_reducible refine VOps.same ?_); (first | (refine VOps.nil ?_; try dsimp only [VThen, VBlock]) | refine VOps.vP (VPure.move rfl rfl) ?_ | refine VOps.vP (VPure.assign rfl rfl) ?_ | refine VOps.vP (VPure.addK rfl rfl rfl (by omega)) ?_)) | refine VCode.region rfl ?_))
        (refine Less.mk (l := [0, 1, 2]) hcx ?ss ?hh rfl (by decide) rfl ⟨_, ?_, j + 1, x.set j true, by omega, rfl, (by rw [List.length_set]; exact hxl), hstep, rfl⟩; (case ss => repeat (first | exact SubS.nil | refine SubS.cons rfl rfl ?_ | refine SubS.cons (ciI (by omega)) rfl ?_ | refine SubS.cons (ciB (by assumption)) rfl ?_)); (case hh => repeat (first | exact SubH.nil | refine SubH.cons rfl rfl rfl ?_)))
        omega
       | false =>
        refine VCode.inTo ⟨[(14, .val (.int .i64 (j : Int))), (13, .val (.int .i64 (i : Int))), (12, .val (.int .i64 (k : Int))), (7, .ref 1), (6, .val (.int .i64 (g.names.length : Int)))], [(0, gO g), (1, BO rows (some (i, 0, 2))), (2, .arr 4 1 ((x.set j false).map encB))], 3⟩ ?_ ?_
        ·refine VCode.drawAny [2] (by kernel_rfl) rfl ?_
         refine VAny.pureI (i := 0) rfl rfl (by kernel_rfl) rfl (VPure.move rfl rfl) ?_
         refine VAny.pureI (i := 1) rfl rfl (by kernel_rfl) rfl (VPure.move rfl rfl) ?_
         refine VAny.pureI (i := 2) rfl rfl (by kernel_rfl) rfl (VPure.idx_nest rfl rfl rfl rfl (by omega) (by omega)) ?_
         refine VAny.loadI (i := 3) rfl rfl (by kernel_rfl) rfl (VLoad.hole rfl rfl rfl (by rfl) ⟨by omega, by decide⟩ rfl (by decide)) ?_
         refine VAny.pureI (i := 4) rfl rfl (by kernel_rfl) rfl (VPure.move rfl rfl) ?_
         refine VAny.pureI (i := 5) rfl rfl (by kernel_rfl) rfl (VPure.move rfl rfl) ?_
         refine VAny.pureI (i := 6) rfl rfl (by kernel_rfl) rfl (VPure.move rfl rfl) ?_
         refine VAny.pureI (i := 7) rfl rfl (by kernel_rfl) rfl (VPure.idx_nest rfl rfl rfl rfl (by omega) (by omega)) ?_
         refine VAny.loadI (i := 8) rfl rfl (by kernel_rfl) rfl (VLoad.hole rfl rfl rfl (by rfl) ⟨by omega, by decide⟩ rfl (by decide)) ?_
         refine VAny.pureI (i := 9) rfl rfl (by kernel_rfl) rfl (VPure.move rfl rfl) ?_
         refine VAny.pureI (i := 10) rfl rfl (by kernel_rfl) rfl (VPure.idx_arrm rfl rfl rfl rfl hbj) ?_
         refine VAny.movesI (is := [11]) (by kernel_rfl) (by simp) rfl (all1 ?_)
         ·refine VMv.load rfl rfl rfl (VLoad.arr1m rfl rfl rfl (by rfl) hbj (by rfl) rfl (by decide)) ?_
          refine VAny.pureI (i := 12) rfl rfl (by kernel_rfl) rfl (VPure.move rfl rfl) ?_
          refine VAny.pureI (i := 13) rfl rfl (by kernel_rfl) rfl (VPure.move rfl rfl) ?_
          refine VAny.pureI (i := 14) rfl rfl (by kernel_rfl) rfl (VPure.move rfl rfl) ?_
          refine VAny.pureI (i := 15) rfl rfl (by kernel_rfl) rfl (VPure.idx_nest rfl rfl rfl rfl (by omega) (by omega)) ?_
          refine VAny.pureI (i := 17) rfl rfl (by kernel_rfl) rfl (VPure.move rfl rfl) ?_
          refine VAny.movesI (is := [16]) (by kernel_rfl) (by simp) rfl (all1 ?_)
          ·refine VMv.load rfl rfl rfl (VLoad.hole (i := i) (j := 0) rfl rfl rfl (by rw [hik]; rfl) ⟨by omega, by decide⟩ rfl (by decide)) ?_
           refine VAny.pureI (i := 18) rfl rfl (by kernel_rfl) rfl (VPure.idx_arrm rfl rfl rfl rfl hbj) ?_
           refine VAny.movesI (is := [19]) (by kernel_rfl) (by simp) rfl (all1 ?_)
           ·refine VMv.load rfl rfl rfl (VLoad.arr1m rfl rfl rfl (by rfl) hbj (by rfl) rfl (by decide)) ?_
            refine VAny.pureI (i := 20) rfl rfl (by kernel_rfl) rfl (VPure.pick_f rfl rfl rfl) ?_
            refine VAny.pureI (i := 21) rfl rfl (by kernel_rfl) rfl (VPure.idx_arrm rfl rfl rfl rfl hbj) ?_
            refine VAny.movesI (is := [22]) (by kernel_rfl) (by simp) rfl (all1 ?_)
            ·refine VMv.store_arrm (u' := false) (ys := x.set j false) rfl rfl rfl (by rfl) rfl rfl rfl rfl (by rfl) hbj rfl rfl (leR (by rfl)) (by rfl) rfl ?_
             refine VAny.done ?_
             (refine Less.mk (l := [0, 1, 2]) hcx ?ss ?hh rfl (by decide) rfl rfl; (case ss => repeat (first | exact SubS.nil | refine SubS.cons rfl rfl ?_ | refine SubS.cons (ciI (by omega)) rfl ?_ | refine SubS.cons (ciB (by assumption)) rfl ?_)); (case hh => repeat (first | exact SubH.nil | refine SubH.cons rfl rfl rfl ?_)))
        (repeat (first | ((with_reducible refine VOps.same ?_); (first | (refine VOps.nil ?_; try dsimp only [VThen, VBlock]) | refine VOps.vP (VPure.move rfl rfl) ?_ | refine VOps.vP (VPure.assign rfl rfl) ?_ | refine VOps.vP (VPure.addK rfl rfl rfl (by omega)) ?_)) | refine VCode.region rfl ?_))
        (refine Less.mk (l := [0, 1, 2]) hcx ?ss ?hh rfl (by decide) rfl ⟨_, ?_, j + 1, x.set j false, by omega, rfl, (by rw [List.length_set]; exact hxl), hstep, rfl⟩; (case ss => repeat (first | exact SubS.nil | refine SubS.cons rfl rfl ?_ | refine SubS.cons (ciI (by omega)) rfl ?_ | refine SubS.cons (ciB (by assumption)) rfl ?_)); (case hh => repeat (first | exact SubH.nil | refine SubH.cons rfl rfl rfl ?_)))
        omega
      ·skip
       have hfin := rowJ_done hJ (.inr (fun q => by rw [(rowJ_k hJ).2 q] at hc; cases hc)) hxl (fun a b q => via_lt hE _ q)
       have hset := mat_row hM hil hxl hfin
       subst hrows
       refine VCode.unfocus (id := 1) rfl rfl ⟨by rw [List.length_map]; omega, by decide⟩ (putN_map (u' := x) hx0 rfl) ?_
       (repeat (first | ((with_reducible refine VOps.same ?_); (first | (refine VOps.nil ?_; try dsimp only [VThen, VBlock]) | refine VOps.vP (VPure.move rfl rfl) ?_ | refine VOps.vP (VPure.assign rfl rfl) ?_ | refine VOps.vP (VPure.addK rfl rfl rfl (by omega)) ?_)) | refine VCode.region rfl ?_ | refine VCode.exit ?_))
       (refine Less.mk (l := [0, 3]) hcx ?ss ?hh rfl (by decide) rfl ⟨_, ?_, i + 1, W.set i x, by omega, rfl, hset, rfl⟩; (case ss => repeat (first | exact SubS.nil | refine SubS.cons rfl rfl ?_ | refine SubS.cons (ciI (by omega)) rfl ?_ | refine SubS.cons (ciB (by assumption)) rfl ?_)); (case hh => repeat (first | exact SubH.nil | refine SubH.cons rfl rfl rfl ?_)))
       omega
     ·(repeat (first | ((with_reducible refine VOps.same ?_); (first | refine VOps.vP (VPure.move rfl rfl) ?_ | refine VOps.vP (VPure.lss rfl rfl rfl) ?_)) | refine VCode.seq ?_ | refine VCode.region rfl ?_))
      refine VOps.says (d := 92) (v := .val (.bool false)) rfl (by rw [decide_eq_false (by omega)]) ?_
      (repeat (first | ((with_reducible refine VOps.same ?_); (first | (refine VOps.nil ?_; try dsimp only [VThen, VBlock]) | refine VOps.vP (VPure.pick_f rfl rfl rfl) ?_ | refine VOps.passv rfl (by kernel_rfl) rfl ?_))))
      refine VCode.cond_f rfl rfl ?_
      have hfin := rowJ_done hJ (.inl (by omega)) hxl (fun a b q => via_lt hE _ q)
      have hset := mat_row hM hil hxl hfin
      subst hrows
      refine VCode.unfocus (id := 1) rfl rfl ⟨by rw [List.length_map]; omega, by decide⟩ (putN_map (u' := x) hx0 rfl) ?_
      (repeat (first | ((with_reducible refine VOps.same ?_); (first | (refine VOps.nil ?_; try dsimp only [VThen, VBlock]) | refine VOps.vP (VPure.move rfl rfl) ?_ | refine VOps.vP (VPure.assign rfl rfl) ?_ | refine VOps.vP (VPure.addK rfl rfl rfl (by omega)) ?_)) | refine VCode.region rfl ?_ | refine VCode.exit ?_))
      (refine Less.mk (l := [0, 3]) hcx ?ss ?hh rfl (by decide) rfl ⟨_, ?_, i + 1, W.set i x, by omega, rfl, hset, rfl⟩; (case ss => repeat (first | exact SubS.nil | refine SubS.cons rfl rfl ?_ | refine SubS.cons (ciI (by omega)) rfl ?_ | refine SubS.cons (ciB (by assumption)) rfl ?_)); (case hh => repeat (first | exact SubH.nil | refine SubH.cons rfl rfl rfl ?_)))
      omega
    ·have hne : ∀ q, (some (i, 0, 2) : Option (Nat × Nat × Nat)) ≠ some (k, 0, q) := fun q h => by cases h; exact hik rfl
     refine VCode.pin (id := 3) k 0 rfl (rows_map (f := rowBo) hR rfl) (fun q h => by cases h; exact hik rfl) (fun v hv => ?_)
     obtain ⟨rows, hrows⟩ : ∃ rows, rows = putN (W.map rowBo) k 0 (.pin v 4 1 (R.map encB)) := ⟨_, rfl⟩
     have hrl : rows.length = g.names.length := by rw [hrows, putN_length, List.length_map]; exact hWl
     have hpin : (rows[k]?).bind (·[0]?) = some (.pin v 4 1 (R.map encB)) := by rw [hrows]; exact putN_self (rows_map (f := rowBo) hR rfl)
     rw [← hrows]
     refine VCode.loop (fun m st => ∃ (j : Nat) (x : List Bool), j ≤ g.names.length ∧ m = g.names.length - j ∧ x.length = g.names.length ∧ rowJ E k i j x ∧ st = ⟨[(14, .val (.int .i64 (j : Int))), (13, .val (.int .i64 (i : Int))), (12, .val (.int .i64 (k : Int))), (7, .ref 1), (6, .val (.int .i64 (g.names.length : Int)))], [(0, gO g), (1, BO rows (some (i, 0, 2))), (2, .arr 4 1 ((x).map encB))], 3⟩) g.names.length ?_ ?_
     ·(refine Less.mk (l := [0, 3, 2]) hcx ?ss ?hh rfl (by decide) rfl ⟨0, x0, by omega, by omega, hx0l, hJ0, rfl⟩; (case ss => repeat (first | exact SubS.nil | refine SubS.cons rfl rfl ?_ | refine SubS.cons (ciI (by omega)) rfl ?_ | refine SubS.cons (ciB (by assumption)) rfl ?_)); (case hh => repeat (first | exact SubH.nil | refine SubH.cons rfl rfl rfl ?_)))
     rintro m st ⟨j, x, hj, rfl, hxl, hJ, rfl⟩
     have hxk : x[k]? = some (x.getD k false) := by rw [List.getD_eq_getElem?_getD, List.getElem?_eq_getElem (by omega)]; rfl
     by_cases hjl : j < g.names.length
     ·obtain ⟨bj, hbj, hbd⟩ : ∃ b, x[j]? = some b ∧ x.getD j false = b := ⟨_, List.getElem?_eq_getElem (by omega), by rw [List.getD_eq_getElem?_getD, List.getElem?_eq_getElem (by omega)]; rfl⟩
      obtain ⟨rj, hrj, hrd⟩ : ∃ b, R[j]? = some b ∧ R.getD j false = b := ⟨_, List.getElem?_eq_getElem (by omega), by rw [List.getD_eq_getElem?_getD, List.getElem?_eq_getElem (by omega)]; rfl⟩
      have hry : ((R.map encB)[j]?).bind (·[0]?) = some (.val (.bool rj)) := by rw [List.getElem?_map, hrj]; rfl
      (repeat (first | ((with_reducible refine VOps.same ?_); (first | refine VOps.vP (VPure.move rfl rfl) ?_ | refine VOps.vP (VPure.lss rfl rfl rfl) ?_)) | refine VCode.seq ?_ | refine VCode.region rfl ?_))
      refine VOps.says (d := 92) (v := .val (.bool true)) rfl (by rw [decide_eq_true (by omega)]) ?_
      (repeat (first | ((with_reducible refine VOps.same ?_); (first | (refine VOps.nil ?_; try dsimp only [VThen, VBlock]) | refine VOps.vP (VPure.move rfl rfl) ?_ | refine VOps.vP (VPure.idx_arrm rfl rfl rfl rfl (by assumption)) ?_ | refine VOps.vV (VLoad.arr1m rfl rfl rfl (by rfl) (by assumption) (by rfl) rfl (by decide)) ?_ | refine VOps.vP (VPure.pick_t rfl rfl rfl) ?_ | (refine VOps.vP (VPure.idx_nest rfl rfl rfl rfl ?b1 ?b2) ?_; (case b1 => (first | omega | (simp only [List.length_map, List.length_append, List.length_cons, List.length_nil] at *; omega) | (simp; omega))); (case b2 => (first | omega | (simp only [List.length_map, List.length_append, List.length_cons, List.length_nil] at *; omega) | (simp; omega)))) | (refine VOps.vV (VLoad.hole rfl rfl rfl (by rfl) ?b1 rfl (by decide)) ?_; (case b1 => exact ⟨by (first | omega | (simp only [List.length_map, List.length_append, List.length_cons, List.length_nil] at *; omega) | (simp; omega)), by decide⟩))))))
      refine VCode.cond rfl (fun hc => ?_) (fun hc => ?_)
      ·have hV : Via E k i k := (rowJ_k hJ).1 hc
       have hstep := rowJ_step (r := rj) hJ (by omega) hV (by rw [← hrd]; exact hRr j)
       rw [hbd] at hstep
       (repeat (first | refine VCode.seq ?_ | refine VCode.block ?_ | refine VCode.skip ?_))
       cases bj with
       | true =>
        refine VCode.inTo ⟨[(14, .val (.int .i64 (j : Int))), (13, .val (.int .i64 (i : Int))), (12, .val (.int .i64 (k : Int))), (7, .ref 1), (6, .val (.int .i64 (g.names.length : Int)))], [(0, gO g), (1, BO rows (some (i, 0, 2))), (2, .arr 4 1 ((x.set j true).map encB))], 3⟩ ?_ ?_
        ·refine VCode.drawAny [2] (by kernel_rfl) rfl ?_
         refine VAny.pureI (i := 0) rfl rfl (by kernel_rfl) rfl (VPure.move rfl rfl) ?_
         refine VAny.pureI (i := 1) rfl rfl (by kernel_rfl) rfl (VPure.move rfl rfl) ?_
         refine VAny.pureI (i := 2) rfl rfl (by kernel_rfl) rfl (VPure.idx_nest rfl rfl rfl rfl (by omega) (by omega)) ?_
         refine VAny.loadI (i := 3) rfl rfl (by kernel_rfl) rfl (VLoad.hole rfl rfl rfl (by rfl) ⟨by omega, by decide⟩ rfl (by decide)) ?_
         refine VAny.pureI (i := 4) rfl rfl (by kernel_rfl) rfl (VPure.move rfl rfl) ?_
         refine VAny.pureI (i := 5) rfl rfl (by kernel_rfl) rfl (VPure.move rfl rfl) ?_
         refine VAny.pureI (i := 6) rfl rfl (by kernel_rfl) rfl (VPure.move rfl rfl) ?_
         refine VAny.pureI (i := 7) rfl rfl (by kernel_rfl) rfl (VPure.idx_nest rfl rfl rfl rfl (by omega) (by omega)) ?_
         refine VAny.loadI (i := 8) rfl rfl (by kernel_rfl) rfl (VLoad.hole rfl rfl rfl (by rfl) ⟨by omega, by decide⟩ rfl (by decide)) ?_
         refine VAny.pureI (i := 9) rfl rfl (by kernel_rfl) rfl (VPure.move rfl rfl) ?_
         refine VAny.pureI (i := 10) rfl rfl (by kernel_rfl) rfl (VPure.idx_arrm rfl rfl rfl rfl hbj) ?_
         refine VAny.movesI (is := [11]) (by kernel_rfl) (by simp) rfl (all1 ?_)
         ·refine VMv.load rfl rfl rfl (VLoad.arr1m rfl rfl rfl (by rfl) hbj (by rfl) rfl (by decide)) ?_
          refine VAny.pureI (i := 12) rfl rfl (by kernel_rfl) rfl (VPure.move rfl rfl) ?_
          refine VAny.passI (i := 13) rfl rfl (by kernel_rfl) rfl ?_
          refine VAny.passI (i := 14) rfl rfl (by kernel_rfl) rfl ?_
          refine VAny.passI (i := 15) rfl rfl (by kernel_rfl) rfl ?_
          refine VAny.passI (i := 16) rfl rfl (by kernel_rfl) rfl ?_
          refine VAny.passI (i := 17) rfl rfl (by kernel_rfl) rfl ?_
          refine VAny.passI (i := 18) rfl rfl (by kernel_rfl) rfl ?_
          refine VAny.passI (i := 19) rfl rfl (by kernel_rfl) rfl ?_
          refine VAny.pureI (i := 20) rfl rfl (by kernel_rfl) rfl (VPure.pick_t rfl rfl rfl) ?_
          refine VAny.pureI (i := 21) rfl rfl (by kernel_rfl) rfl (VPure.idx_arrm rfl rfl rfl rfl hbj) ?_
          refine VAny.movesI (is := [22]) (by kernel_rfl) (by simp) rfl (all1 ?_)
          ·refine VMv.store_arrm (u' := true) (ys := x.set j true) rfl rfl rfl (by rfl) rfl rfl rfl rfl (by rfl) hbj rfl rfl (leR (by rfl)) (by rfl) rfl ?_
           refine VAny.done ?_
           (refine Less.mk (l := [0, 1, 2]) hcx ?ss ?hh rfl (by decide) rfl rfl; (case ss => repeat (first | exact SubS.nil | refine SubS.cons rfl rfl ?_ | refine SubS.cons (ciI (by omega)) rfl ?_ | refine SubS.cons (ciB (by assumption)) rfl ?_)); (case hh => repeat (first | exact SubH.nil | refine SubH.cons rfl rfl rfl ?_)))
        (repeat (first | ((with_reducible refine VOps.same ?_); (first | (refine VOps.nil ?_; try dsimp only [VThen, VBlock]) | refine VOps.vP (VPure.move rfl rfl) ?_ | refine VOps.vP (VPure.assign rfl rfl) ?_ | refine VOps.vP (VPure.addK rfl rfl rfl (by omega)) ?_)) | refine VCode.region rfl ?_))
        (refine Less.mk (l := [0, 1, 2]) hcx ?ss ?hh rfl (by decide) rfl ⟨_, ?_, j + 1, x.set j true, by omega, rfl, (by rw [List.length_set]; exact hxl), hstep, rfl⟩; (case ss => repeat (first | exact SubS.nil | refine SubS.cons rfl rfl ?_ | refine SubS.cons (ciI (by omega)) rfl ?_ | refine SubS.cons (ciB (by assumption)) rfl ?_)); (case hh => repeat (first | exact SubH.nil | refine SubH.cons rfl rfl rfl ?_)))
        omega
       | false =>
        refine VCode.inTo ⟨[(14, .val (.int .i64 (j : Int))), (13, .val (.int .i64 (i : Int))), (12, .val (.int .i64 (k : Int))), (7, .ref 1), (6, .val (.int .i64 (g.names.length : Int)))], [(0, gO g), (1, BO rows (some (i, 0, 2))), (2, .arr 4 1 ((x.set j rj).map encB))], 3⟩ ?_ ?_
        ·refine VCode.drawAny [2] (by kernel_rfl) rfl ?_
         refine VAny.pureI (i := 0) rfl rfl (by kernel_rfl) rfl (VPure.move rfl rfl) ?_
         refine VAny.pureI (i := 1) rfl rfl (by kernel_rfl) rfl (VPure.move rfl rfl) ?_
         refine VAny.pureI (i := 2) rfl rfl (by kernel_rfl) rfl (VPure.idx_nest rfl rfl rfl rfl (by omega) (by omega)) ?_
         refine VAny.loadI (i := 3) rfl rfl (by kernel_rfl) rfl (VLoad.hole rfl rfl rfl (by rfl) ⟨by omega, by decide⟩ rfl (by decide)) ?_
         refine VAny.pureI (i := 4) rfl rfl (by kernel_rfl) rfl (VPure.move rfl rfl) ?_
         refine VAny.pureI (i := 5) rfl rfl (by kernel_rfl) rfl (VPure.move rfl rfl) ?_
         refine VAny.pureI (i := 6) rfl rfl (by kernel_rfl) rfl (VPure.move rfl rfl) ?_
         refine VAny.pureI (i := 7) rfl rfl (by kernel_rfl) rfl (VPure.idx_nest rfl rfl rfl rfl (by omega) (by omega)) ?_
         refine VAny.loadI (i := 8) rfl rfl (by kernel_rfl) rfl (VLoad.hole rfl rfl rfl (by rfl) ⟨by omega, by decide⟩ rfl (by decide)) ?_
         refine VAny.pureI (i := 9) rfl rfl (by kernel_rfl) rfl (VPure.move rfl rfl) ?_
         refine VAny.pureI (i := 10) rfl rfl (by kernel_rfl) rfl (VPure.idx_arrm rfl rfl rfl rfl hbj) ?_
         refine VAny.movesI (is := [11]) (by kernel_rfl) (by simp) rfl (all1 ?_)
         ·refine VMv.load rfl rfl rfl (VLoad.arr1m rfl rfl rfl (by rfl) hbj (by rfl) rfl (by decide)) ?_
          refine VAny.pureI (i := 12) rfl rfl (by kernel_rfl) rfl (VPure.move rfl rfl) ?_
          refine VAny.pureI (i := 13) rfl rfl (by kernel_rfl) rfl (VPure.move rfl rfl) ?_
          refine VAny.pureI (i := 14) rfl rfl (by kernel_rfl) rfl (VPure.move rfl rfl) ?_
          refine VAny.pureI (i := 15) rfl rfl (by kernel_rfl) rfl (VPure.idx_nest rfl rfl rfl rfl (by omega) (by omega)) ?_
          refine VAny.pureI (i := 17) rfl rfl (by kernel_rfl) rfl (VPure.move rfl rfl) ?_
          refine VAny.movesI (is := [16]) (by kernel_rfl) (by simp) rfl (all1 ?_)
          ·refine VMv.load rfl rfl rfl (VLoad.pin (i := k) (j := 0) rfl rfl rfl (by rfl) hpin hne rfl (by decide)) ?_
           refine VAny.pureI (i := 18) rfl rfl (by kernel_rfl) rfl (VPure.idx_pin (id := 1) (i := k) (j := 0) rfl rfl rfl rfl hpin hne (by omega) (by rw [List.length_map]; omega)) ?_
           refine VAny.movesI (is := [19]) (by kernel_rfl) (by simp) rfl (all1 ?_)
           ·refine VMv.load rfl rfl rfl (VLoad.pin1 (id := 1) (i := k) (j := 0) (q := j) (p := 0) rfl rfl rfl hpin hne hry rfl (by decide)) ?_
            refine VAny.pureI (i := 20) rfl rfl (by kernel_rfl) rfl (VPure.pick_f rfl rfl rfl) ?_
            refine VAny.pureI (i := 21) rfl rfl (by kernel_rfl) rfl (VPure.idx_arrm rfl rfl rfl rfl hbj) ?_
            refine VAny.movesI (is := [22]) (by kernel_rfl) (by simp) rfl (all1 ?_)
            ·refine VMv.store_arrm (u' := rj) (ys := x.set j rj) rfl rfl rfl (by rfl) rfl rfl rfl rfl (by rfl) hbj rfl rfl (leR (by rfl)) (by rfl) rfl ?_
             refine VAny.done ?_
             (refine Less.mk (l := [0, 1, 2]) hcx ?ss ?hh rfl (by decide) rfl rfl; (case ss => repeat (first | exact SubS.nil | refine SubS.cons rfl rfl ?_ | refine SubS.cons (ciI (by omega)) rfl ?_ | refine SubS.cons (ciB (by assumption)) rfl ?_)); (case hh => repeat (first | exact SubH.nil | refine SubH.cons rfl rfl rfl ?_)))
        (repeat (first | ((with_reducible refine VOps.same ?_); (first | (refine VOps.nil ?_; try dsimp only [VThen, VBlock]) | refine VOps.vP (VPure.move rfl rfl) ?_ | refine VOps.vP (VPure.assign rfl rfl) ?_ | refine VOps.vP (VPure.addK rfl rfl rfl (by omega)) ?_)) | refine VCode.region rfl ?_))
        (refine Less.mk (l := [0, 1, 2]) hcx ?ss ?hh rfl (by decide) rfl ⟨_, ?_, j + 1, x.set j rj, by omega, rfl, (by rw [List.length_set]; exact hxl), hstep, rfl⟩; (case ss => repeat (first | exact SubS.nil | refine SubS.cons rfl rfl ?_ | refine SubS.cons (ciI (by omega)) rfl ?_ | refine SubS.cons (ciB (by assumption)) rfl ?_)); (case hh => repeat (first | exact SubH.nil | refine SubH.cons rfl rfl rfl ?_)))
        omega
      ·skip
       have hfin := rowJ_done hJ (.inr (fun q => by rw [(rowJ_k hJ).2 q] at hc; cases hc)) hxl (fun a b q => via_lt hE _ q)
       have hset := mat_row hM hil hxl hfin
       refine VCode.unpin (id := 1) (rows' := W.map rowBo) k 0 rfl hpin (by rw [hrows, putN_twice]; exact putN_same hR) ?_
       refine VCode.unfocus (id := 1) rfl rfl ⟨by rw [List.length_map]; omega, by decide⟩ (putN_map (u' := x) hx0 rfl) ?_
       (repeat (first | ((with_reducible refine VOps.same ?_); (first | (refine VOps.nil ?_; try dsimp only [VThen, VBlock]) | refine VOps.vP (VPure.move rfl rfl) ?_ | refine VOps.vP (VPure.assign rfl rfl) ?_ | refine VOps.vP (VPure.addK rfl rfl rfl (by omega)) ?_)) | refine VCode.region rfl ?_ | refine VCode.exit ?_))
       (refine Less.mk (l := [0, 3]) hcx ?ss ?hh rfl (by decide) rfl ⟨_, ?_, i + 1, W.set i x, by omega, rfl, hset, rfl⟩; (case ss => repeat (first | exact SubS.nil | refine SubS.cons rfl rfl ?_ | refine SubS.cons (ciI (by omega)) rfl ?_ | refine SubS.cons (ciB (by assumption)) rfl ?_)); (case hh => repeat (first | exact SubH.nil | refine SubH.cons rfl rfl rfl ?_)))
       omega
     ·(repeat (first | ((with_reducible refine VOps.same ?_); (first | refine VOps.vP (VPure.move rfl rfl) ?_ | refine VOps.vP (VPure.lss rfl rfl rfl) ?_)) | refine VCode.seq ?_ | refine VCode.region rfl ?_))
      refine VOps.says (d := 92) (v := .val (.bool false)) rfl (by rw [decide_eq_false (by omega)]) ?_
      (repeat (first | ((with_reducible refine VOps.same ?_); (first | (refine VOps.nil ?_; try dsimp only [VThen, VBlock]) | refine VOps.vP (VPure.pick_f rfl rfl rfl) ?_ | refine VOps.passv rfl (by kernel_rfl) rfl ?_))))
      refine VCode.cond_f rfl rfl ?_
      have hfin := rowJ_done hJ (.inl (by omega)) hxl (fun a b q => via_lt hE _ q)
      have hset := mat_row hM hil hxl hfin
      refine VCode.unpin (id := 1) (rows' := W.map rowBo) k 0 rfl hpin (by rw [hrows, putN_twice]; exact putN_same hR) ?_
      refine VCode.unfocus (id := 1) rfl rfl ⟨by rw [List.length_map]; omega, by decide⟩ (putN_map (u' := x) hx0 rfl) ?_
      (repeat (first | ((with_reducible refine VOps.same ?_); (first | (refine VOps.nil ?_; try dsimp only [VThen, VBlock]) | refine VOps.vP (VPure.move rfl rfl) ?_ | refine VOps.vP (VPure.assign rfl rfl) ?_ | refine VOps.vP (VPure.addK rfl rfl rfl (by omega)) ?_)) | refine VCode.region rfl ?_ | refine VCode.exit ?_))
      (refine Less.mk (l := [0, 3]) hcx ?ss ?hh rfl (by decide) rfl ⟨_, ?_, i + 1, W.set i x, by omega, rfl, hset, rfl⟩; (case ss => repeat (first | exact SubS.nil | refine SubS.cons rfl rfl ?_ | refine SubS.cons (ciI (by omega)) rfl ?_ | refine SubS.cons (ciB (by assumption)) rfl ?_)); (case hh => repeat (first | exact SubH.nil | refine SubH.cons rfl rfl rfl ?_)))
      omega
   ·have hf : Mat g.names.length (Via E (k + 1)) W := hM.mono (fun i' hi' j => by unfold rnd; rw [if_pos (by omega)])
    (repeat (first | ((with_reducible refine VOps.same ?_); (first | (refine VOps.nil ?_; try dsimp only [VThen, VBlock]) | refine VOps.vP (VPure.move rfl rfl) ?_ | refine VOps.vP (VPure.lss rfl rfl rfl) ?_)) | refine VCode.seq ?_ | refine VCode.region rfl ?_))
    refine VCode.cond_f rfl (decide_eq_false (by omega)) ?_
    (repeat (first | ((with_reducible refine VOps.same ?_); (first | (refine VOps.nil ?_; try dsimp only [VThen, VBlock]) | refine VOps.vP (VPure.move rfl rfl) ?_ | refine VOps.vP (VPure.assign rfl rfl) ?_ | refine VOps.vP (VPure.addK rfl rfl rfl (by omega)) ?_)) | refine VCode.region rfl ?_ | refine VCode.exit ?_))
    (refine Less.mk (l := [0, 1]) hcx ?ss ?hh rfl (by decide) rfl ⟨_, ?_, k + 1, W, by omega, rfl, hf, rfl⟩; (case ss => repeat (first | exact SubS.nil | refine SubS.cons rfl rfl ?_ | refine SubS.cons (ciI (by omega)) rfl ?_ | refine SubS.cons (ciB (by assumption)) rfl ?_)); (case hh => repeat (first | exact SubH.nil | refine SubH.cons rfl rfl rfl ?_)))
    omega
  ·obtain rfl : k = g.names.length := by omega
   obtain rfl := hend W hM
   (repeat (first | ((with_reducible refine VOps.same ?_); (first | (refine VOps.nil ?_; try dsimp only [VThen, VBlock]) | refine VOps.vP (VPure.move rfl rfl) ?_ | refine VOps.vP (VPure.lss rfl rfl rfl) ?_)) | refine VCode.seq ?_ | refine VCode.region rfl ?_))
   refine VCode.cond_f rfl (decide_eq_false (by omega)) ?_
   refine VCode.loose (id := 1) rfl (rowBo_out _) ?_
   refine VCode.freeze (id := 2) rfl ?_
   (repeat (first | ((with_reducible refine VOps.same ?_); (first | (refine VOps.nil ?_; try dsimp only [VThen, VBlock]) | refine VOps.vP (VPure.move rfl rfl) ?_ | refine VOps.vP (VPure.assign rfl rfl) ?_)) | refine VCode.seq ?_ | refine VCode.region rfl ?_ | refine VCode.exit ?_))
   refine VCode.retD rfl rfl (.tmp rfl .nil) ?_
   rfl
set_option maxHeartbeats 4000000 in
theorem ron_n (g : Gr) (w : List Spot) (hg : Sized g) (hG : ¬ GoodG g) : VCalls Try.prog 15 [gV g, sV w] [] 0 (Gives (.val (.slice none 0 0))) := by
 refine VCalls.enterD (n := 126) Try.func15 rfl rfl (by simp) rfl (fun cx hcx => ?_)
 (repeat (first | ((with_reducible refine VOps.same ?_); (first | (refine VOps.nil ?_; try dsimp only [VThen, VBlock]) | refine VOps.vP (VPure.assign rfl rfl) ?_ | refine VOps.vV (VLoad.boxA rfl rfl rfl (by rfl) (leR (by rfl)) (by decide)) ?_ | refine VOps.box rfl rfl (by kernel_rfl) rfl rfl rfl rfl ?_)) | refine VCode.seq ?_ | refine VCode.region rfl ?_))
 refine VOps.pure rfl Try.func26 rfl (by kernel_rfl) rfl rfl rfl rfl rfl rfl rfl (rgood_v g hg) ?_
 (repeat (first | ((with_reducible refine VOps.same ?_); (first | (refine VOps.nil ?_; try dsimp only [VThen, VBlock]) | refine VOps.vP (VPure.not rfl rfl) ?_))))
 refine VCode.cond_t rfl (by rw [decide_eq_false hG]; rfl) ?_
 (repeat (first | ((with_reducible refine VOps.same ?_); (first | (refine VOps.nil ?_; try dsimp only [VThen, VBlock]) | refine VOps.vP (VPure.assign rfl rfl) ?_)) | refine VCode.seq ?_ | refine VCode.region rfl ?_))
 refine VCode.retD rfl rfl (.tmp rfl .nil) ?_
 rfl
end Go.Proofs.Ytfjfbapiheehaaa.V
end
section
set_option linter.unusedVariables false
set_option linter.unusedSimpArgs false
namespace Go.Proofs.Ytfjfbapiheehaaa.V
open Go Go.RowKit Go.Proofs.Ytfjfbapiheehaaa.DG
section
variable {P : Program} {n : Nat} {cx : Cx} {st : St} {ops : Array Oper} {K : St → Prop} {E : List PanicEntry → St → Prop} {m : List Nat} {i : Nat} {rest : List Oper}
theorem Link.frz {b : Began} {g : Nat → Value} {h : Heap} {x : Nat} {w : World} {id sz : Nat} {xs : List (List D)} (hl : Link m b g h x w) : Link m b g (frzH id sz xs h) x w :=
 ⟨hl.s, hl.x, fun i v k hi h1 h2 => hl.m i v k hi (by
  rw [gv_frz] at h1
  split at h1
  ·cases h1
  ·exact h1) h2⟩
end
section
variable {P : Program} {n : Nat} {cx : Cx} {st : St} {ops : Array Oper} {K : St → Prop} {E : List PanicEntry → St → Prop} {m : List Nat} {dl pl : List (Nat × Oper)}
theorem VAny.freeze {id : Nat} {t : TypeId} {sz : Nat} {xs : List (List D)} (hh : lk st.h id = some (.arr t sz xs)) (h : VAny P n cx false m ops K E dl pl ⟨frzS id sz xs st.s, frzH id sz xs st.h, st.x⟩) : VAny P n cx false m ops K E dl pl st :=
 fun hn hp g a w r b hb => h hn hp g a w (r.frz hh) b hb.frz
end
noncomputable def isInner (g : Gr) (w : List Spot) (x : Spot) : Bool := !isIn w x && inS g w x
theorem inner_is (g : Gr) (w : List Spot) : innerS g w = (spots g).filter (isInner g w) := by
 unfold innerS restS isInner
 rw [List.filter_filter]
 congr 1
 funext x
 exact Bool.and_comm ..
end Go.Proofs.Ytfjfbapiheehaaa.V
end
section
set_option linter.unusedVariables false
set_option linter.unusedSimpArgs false
namespace Go.Proofs.Ytfjfbapiheehaaa.V
open Go Go.RowKit Go.Proofs.Ytfjfbapiheehaaa.DG
def Dsc (p : Nat → Bool) (a c f : Nat) : Prop := (f = a ∧ ∀ b, c ≤ b → b < a → p b = false) ∨ (c ≤ f ∧ f < a ∧ p f = true ∧ ∀ b, c ≤ b → b < f → p b = false)
theorem Dsc.zero (p : Nat → Bool) (a : Nat) : Dsc p a a a := .inl ⟨rfl, fun b h h' => by omega⟩
theorem Dsc.yes {p : Nat → Bool} {a b f : Nat} (h : Dsc p a (b + 1) f) (hb : b < a) (hp : p b = true) : Dsc p a b b := .inr ⟨Nat.le_refl _, hb, hp, fun q h h' => by omega⟩
theorem Dsc.no {p : Nat → Bool} {a b f : Nat} (h : Dsc p a (b + 1) f) (hp : p b = false) : Dsc p a b f := by
 rcases h with ⟨h1, h2⟩ | ⟨h1, h2, h3, h4⟩
 ·refine .inl ⟨h1, fun q hq hq' => ?_⟩
  by_cases e : q = b
  ·subst e; exact hp
  ·exact h2 q (by omega) hq'
 ·refine .inr ⟨by omega, h2, h3, fun q hq hq' => ?_⟩
  by_cases e : q = b
  ·subst e; exact hp
  ·exact h4 q (by omega) hq'
theorem Dsc.done {p : Nat → Bool} {a f : Nat} (h : Dsc p a 0 f) : Asc p a a f := by
 rcases h with ⟨h1, h2⟩ | ⟨h1, h2, h3, h4⟩
 ·exact .inl ⟨h1, fun b hb => h2 b (Nat.zero_le _) hb⟩
 ·exact .inr ⟨h2, h3, fun b hb => h4 b (Nat.zero_le _) hb⟩
set_option maxHeartbeats 8000000 in
theorem rcomps_v (g : Gr) (w : List Spot) (hg : Sized g) (hw : w.length ≤ 1000000) : VCalls Try.prog 22 [gV g, sV w] [] 0 (Gives (.sl 1 ((comps g w).map encN))) := by
 have hn := hg.names
 refine VCalls.enterD (n := 48) Try.func22 rfl rfl (by simp) rfl (fun cx hcx => ?_)
 (repeat (first | ((with_reducible refine VOps.same ?_); (first | (refine VOps.nil ?_; try dsimp only [VThen, VBlock]) | refine VOps.vP (VPure.move rfl rfl) ?_ | refine VOps.vP (VPure.assign rfl rfl) ?_ | refine VOps.vV (VLoad.boxA rfl rfl rfl (by rfl) (leR (by rfl)) (by decide)) ?_ | refine VOps.box rfl rfl (by kernel_rfl) rfl rfl rfl rfl ?_)) | refine VCode.seq ?_ | refine VCode.region rfl ?_))
 by_cases hG : GoodG g
 ·have hol := onOf_len hG w
  have hcl := comps_len hG w
  refine VOps.gives rfl Try.func15 rfl (by kernel_rfl) rfl rfl rfl rfl rfl rfl rfl rfl (ron_v g w hg hw hG) ?_
  (repeat (first | ((with_reducible refine VOps.same ?_); (first | (refine VOps.nil ?_; try dsimp only [VThen, VBlock]) | refine VOps.vP (VPure.assign rfl rfl) ?_)) | refine VCode.seq ?_ | refine VCode.region rfl ?_ | refine VCode.block ?_))
  refine VCode.nilObj 6 3 1 rfl ?_
  refine VCode.loop (fun m st => ∃ k : Nat, k ≤ g.names.length ∧ m = g.names.length - k ∧ st = ⟨[(7, .val (.int .i64 (k : Int))), (6, .ref 0), (5, .sl 1 ((onOf g w).map encRow))], [(0, .arr 3 1 (((comps g w).take k).map encN))], 1⟩) g.names.length ?_ ?_
  ·(refine Less.mk (l := [1]) hcx ?ss ?hh rfl (by decide) rfl ⟨0, by omega, by omega, rfl⟩; (case ss => repeat (first | exact SubS.nil | refine SubS.cons rfl rfl ?_ | refine SubS.cons (ciI (by omega)) rfl ?_ | refine SubS.cons (ciB (by assumption)) rfl ?_)); (case hh => repeat (first | exact SubH.nil | refine SubH.cons rfl rfl rfl ?_)))
  rintro m st ⟨k, hk, rfl, rfl⟩
  by_cases hkn : k < g.names.length
  ·have hrow := onOf_get hG w hkn
   have htl : ((comps g w).take k).length ≤ 4000 := by rw [List.length_take]; omega
   (repeat (first | ((with_reducible refine VOps.same ?_); (first | (refine VOps.nil ?_; try dsimp only [VThen, VBlock]) | refine VOps.vP (VPure.move rfl rfl) ?_ | refine VOps.vP (VPure.len_map TI.und' rfl rfl) ?_ | refine VOps.vP (VPure.lss rfl rfl rfl) ?_)) | refine VCode.seq ?_ | refine VCode.region rfl ?_))
   refine VCode.cond_t rfl (decide_eq_true (by omega)) ?_
   (repeat (first | ((with_reducible refine VOps.same ?_); (first | (refine VOps.nil ?_; try dsimp only [VThen, VBlock]) | refine VOps.vP (VPure.move rfl rfl) ?_ | refine VOps.vP (VPure.assign rfl rfl) ?_ | refine VOps.vP (VPure.subK rfl rfl rfl (by omega)) ?_)) | refine VCode.seq ?_ | refine VCode.region rfl ?_ | refine VCode.block ?_ | refine VCode.skip ?_))
   refine VCode.loop (fun m st => ∃ c f : Nat, c ≤ k ∧ m = c ∧ Dsc (bothB (onOf g w) k) k c f ∧ st = ⟨[(9, .val (.int .i64 ((c : Int) - 1))), (8, .val (.int .i64 (f : Int))), (7, .val (.int .i64 (k : Int))), (6, .ref 0), (5, .sl 1 ((onOf g w).map encRow))], [(0, .arr 3 1 (((comps g w).take k).map encN))], 1⟩) k ?_ ?_
   ·(refine Less.mk (l := [0]) hcx ?ss ?hh rfl (by decide) rfl ⟨k, k, by omega, rfl, Dsc.zero _ _, rfl⟩; (case ss => repeat (first | exact SubS.nil | refine SubS.cons rfl rfl ?_ | refine SubS.cons (ciI (by omega)) rfl ?_ | refine SubS.cons (ciB (by assumption)) rfl ?_)); (case hh => repeat (first | exact SubH.nil | refine SubH.cons rfl rfl rfl ?_)))
   rintro c st ⟨c0, f, hc, rfl, hd, rfl⟩
   cases c with
   | succ b =>
    have hbn : b < g.names.length := by omega
    have hrowb := onOf_get hG w hbn
    have hc1 := cell_get hG w hkn hbn
    have hc2 := cell_get hG w hbn hkn
    refine VCode.says (d := 9) (v := .val (.int .i64 (b : Int))) rfl (by rw [show ((b + 1 : Nat) : Int) - 1 = (b : Int) by omega]) ?_
    (repeat (first | ((with_reducible refine VOps.same ?_); (first | (refine VOps.nil ?_; try dsimp only [VThen, VBlock]) | refine VOps.vP (VPure.move rfl rfl) ?_ | refine VOps.vP (VPure.geq rfl rfl rfl) ?_)) | refine VCode.seq ?_ | refine VCode.region rfl ?_))
    refine VCode.cond_t rfl (decide_eq_true (by omega)) ?_
    (repeat (first | ((with_reducible refine VOps.same ?_); (first | refine VOps.vP (VPure.move rfl rfl) ?_ | refine VOps.vP (VPure.idx_map rfl rfl rfl (by assumption)) ?_ | refine VOps.vV (VLoad.el1 rfl rfl rfl (by rfl)) ?_)) | refine VCode.seq ?_ | refine VCode.region rfl ?_ | refine VCode.block ?_ | refine VCode.skip ?_))
    refine VOps.bool (d := 33) rfl (fun h1 => ?_) (fun h1 => ?_)
    ·(repeat (first | ((with_reducible refine VOps.same ?_); (first | (refine VOps.nil ?_; try dsimp only [VThen, VBlock]) | refine VOps.vP (VPure.move rfl rfl) ?_ | refine VOps.vP (VPure.idx_map rfl rfl rfl (by assumption)) ?_ | refine VOps.vV (VLoad.el1 rfl rfl rfl (by rfl)) ?_ | refine VOps.vP (VPure.pick_t rfl rfl rfl) ?_))))
     refine VCode.cond rfl (fun h2 => ?_) (fun h2 => ?_)
     ·have hp : bothB (onOf g w) k b = true := by unfold bothB; rw [h1, h2]; rfl
      (repeat (first | ((with_reducible refine VOps.same ?_); (first | (refine VOps.nil ?_; try dsimp only [VThen, VBlock]) | refine VOps.vP (VPure.move rfl rfl) ?_ | refine VOps.vP (VPure.assign rfl rfl) ?_ | refine VOps.vP (VPure.subK rfl rfl rfl (by omega)) ?_)) | refine VCode.region rfl ?_))
      (refine Less.mk (l := [0]) hcx ?ss ?hh rfl (by decide) rfl ⟨_, ?_, b, b, by omega, rfl, hd.yes (by omega) hp, rfl⟩; (case ss => repeat (first | exact SubS.nil | refine SubS.cons rfl rfl ?_ | refine SubS.cons (ciI (by omega)) rfl ?_ | refine SubS.cons (ciB (by assumption)) rfl ?_)); (case hh => repeat (first | exact SubH.nil | refine SubH.cons rfl rfl rfl ?_)))
      omega
     ·have hp : bothB (onOf g w) k b = false := by unfold bothB; rw [h2]; simp
      (repeat (first | ((with_reducible refine VOps.same ?_); (first | (refine VOps.nil ?_; try dsimp only [VThen, VBlock]) | refine VOps.vP (VPure.move rfl rfl) ?_ | refine VOps.vP (VPure.assign rfl rfl) ?_ | refine VOps.vP (VPure.subK rfl rfl rfl (by omega)) ?_)) | refine VCode.region rfl ?_ | refine VCode.skip ?_))
      (refine Less.mk (l := [0]) hcx ?ss ?hh rfl (by decide) rfl ⟨_, ?_, b, f, by omega, rfl, hd.no hp, rfl⟩; (case ss => repeat (first | exact SubS.nil | refine SubS.cons rfl rfl ?_ | refine SubS.cons (ciI (by omega)) rfl ?_ | refine SubS.cons (ciB (by assumption)) rfl ?_)); (case hh => repeat (first | exact SubH.nil | refine SubH.cons rfl rfl rfl ?_)))
      omega
    ·have hp : bothB (onOf g w) k b = false := by unfold bothB; rw [h1]; rfl
     (repeat (first | ((with_reducible refine VOps.same ?_); (first | (refine VOps.nil ?_; try dsimp only [VThen, VBlock]) | refine VOps.vP (VPure.pick_f rfl rfl rfl) ?_ | refine VOps.passv rfl (by kernel_rfl) rfl ?_))))
     refine VCode.cond_f rfl rfl ?_
     (repeat (first | ((with_reducible refine VOps.same ?_); (first | (refine VOps.nil ?_; try dsimp only [VThen, VBlock]) | refine VOps.vP (VPure.move rfl rfl) ?_ | refine VOps.vP (VPure.assign rfl rfl) ?_ | refine VOps.vP (VPure.subK rfl rfl rfl (by omega)) ?_)) | refine VCode.region rfl ?_ | refine VCode.skip ?_))
     (refine Less.mk (l := [0]) hcx ?ss ?hh rfl (by decide) rfl ⟨_, ?_, b, f, by omega, rfl, hd.no hp, rfl⟩; (case ss => repeat (first | exact SubS.nil | refine SubS.cons rfl rfl ?_ | refine SubS.cons (ciI (by omega)) rfl ?_ | refine SubS.cons (ciB (by assumption)) rfl ?_)); (case hh => repeat (first | exact SubH.nil | refine SubH.cons rfl rfl rfl ?_)))
     omega
   | zero =>
    have hf := hd.done.done.unique (firstOf_is (bothB (onOf g w) k) k)
    have hcg : (comps g w)[k]? = some f := by rw [comps_get hG w hkn, hf]; rfl
    (repeat (first | ((with_reducible refine VOps.same ?_); (first | (refine VOps.nil ?_; try dsimp only [VThen, VBlock]) | refine VOps.vP (VPure.move rfl rfl) ?_ | refine VOps.vP (VPure.geq rfl rfl rfl) ?_)) | refine VCode.seq ?_ | refine VCode.region rfl ?_))
    refine VCode.cond_f rfl rfl ?_
    (repeat (first | ((with_reducible refine VOps.same ?_); (first | refine VOps.vP (VPure.move rfl rfl) ?_ | refine VOps.one rfl rfl (by kernel_rfl) rfl (by rfl) (by decide) (by decide) rfl (by rfl) (by rfl) ?_)) | refine VCode.region rfl ?_ | refine VCode.exit ?_))
    refine VOps.append (zs := ((comps g w).take (k + 1)).map encN) rfl rfl (by kernel_rfl) rfl (by rfl) (by decide) rfl (.arr rfl) rfl (.arr rfl) (by simp only [List.length_append, List.length_cons, List.length_nil, List.length_map]; unfold most; omega) (by simp only [List.length_append, List.length_cons, List.length_nil, List.length_map]; unfold most; omega) rfl ( by rw [List.take_add_one, hcg, List.map_append]; rfl) ?_
    (repeat (first | ((with_reducible refine VOps.same ?_); (first | (refine VOps.nil ?_; try dsimp only [VThen, VBlock]) | refine VOps.vP (VPure.move rfl rfl) ?_ | refine VOps.vP (VPure.assign rfl rfl) ?_ | refine VOps.vP (VPure.addK rfl rfl rfl (by omega)) ?_)) | refine VCode.region rfl ?_))
    (refine Less.mk (l := [2]) hcx ?ss ?hh rfl (by decide) rfl ⟨_, ?_, k + 1, by omega, rfl, rfl⟩; (case ss => repeat (first | exact SubS.nil | refine SubS.cons rfl rfl ?_ | refine SubS.cons (ciI (by omega)) rfl ?_ | refine SubS.cons (ciB (by assumption)) rfl ?_)); (case hh => repeat (first | exact SubH.nil | refine SubH.cons rfl rfl rfl ?_)))
    omega
  ·have e : (comps g w).take k = comps g w := List.take_of_length_le (by omega)
   rw [e]
   (repeat (first | ((with_reducible refine VOps.same ?_); (first | (refine VOps.nil ?_; try dsimp only [VThen, VBlock]) | refine VOps.vP (VPure.move rfl rfl) ?_ | refine VOps.vP (VPure.len_map TI.und' rfl rfl) ?_ | refine VOps.vP (VPure.lss rfl rfl rfl) ?_)) | refine VCode.seq ?_ | refine VCode.region rfl ?_))
   refine VCode.cond_f rfl (decide_eq_false (by omega)) ?_
   (repeat (first | ((with_reducible refine VOps.same ?_); (first | (refine VOps.nil ?_; try dsimp only [VThen, VBlock]) | refine VOps.vP (VPure.move rfl rfl) ?_ | refine VOps.vP (VPure.assign rfl rfl) ?_)) | refine VCode.seq ?_ | refine VCode.region rfl ?_ | refine VCode.exit ?_))
   refine VCode.freeze (id := 0) rfl ?_
   refine VCode.retD rfl rfl (.tmp rfl .nil) ?_
   rfl
 ·refine VOps.gives rfl Try.func15 rfl (by kernel_rfl) rfl rfl rfl rfl rfl rfl rfl rfl (ron_n g w hg hG) ?_
  (repeat (first | ((with_reducible refine VOps.same ?_); (first | (refine VOps.nil ?_; try dsimp only [VThen, VBlock]) | refine VOps.vP (VPure.assign rfl rfl) ?_)) | refine VCode.seq ?_ | refine VCode.region rfl ?_ | refine VCode.block ?_))
  refine VCode.nilObj 6 3 1 rfl ?_
  refine VCode.loop (fun m st => m = 0 ∧ st = ⟨[(7, .val (.int .i64 0)), (6, .ref 0), (5, .val (.slice none 0 0))], [(0, .arr 3 1 [])], 1⟩) 0 ?_ ?_
  ·(refine Less.mk (l := [1]) hcx ?ss ?hh rfl (by decide) rfl ⟨rfl, rfl⟩; (case ss => repeat (first | exact SubS.nil | refine SubS.cons rfl rfl ?_ | refine SubS.cons (ciI (by omega)) rfl ?_ | refine SubS.cons (ciB (by assumption)) rfl ?_)); (case hh => repeat (first | exact SubH.nil | refine SubH.cons rfl rfl rfl ?_)))
  rintro m st ⟨rfl, rfl⟩
  have e : comps g w = [] := by unfold comps onOf; rw [if_neg hG]; rfl
  rw [e]
  (repeat (first | ((with_reducible refine VOps.same ?_); (first | (refine VOps.nil ?_; try dsimp only [VThen, VBlock]) | refine VOps.vP (VPure.move rfl rfl) ?_ | refine VOps.vP (VPure.len_nil TI.und' rfl rfl) ?_ | refine VOps.vP (VPure.lss rfl rfl rfl) ?_)) | refine VCode.seq ?_ | refine VCode.region rfl ?_))
  refine VCode.cond_f rfl rfl ?_
  (repeat (first | ((with_reducible refine VOps.same ?_); (first | (refine VOps.nil ?_; try dsimp only [VThen, VBlock]) | refine VOps.vP (VPure.move rfl rfl) ?_ | refine VOps.vP (VPure.assign rfl rfl) ?_)) | refine VCode.seq ?_ | refine VCode.region rfl ?_ | refine VCode.exit ?_))
  refine VCode.freeze (id := 0) rfl ?_
  refine VCode.retD rfl rfl (.tmp rfl .nil) ?_
  rfl
end Go.Proofs.Ytfjfbapiheehaaa.V
end
section
set_option linter.unusedVariables false
set_option linter.unusedSimpArgs false
namespace Go.Proofs.Ytfjfbapiheehaaa.V
open Go Go.RowKit
def VAnyO (P : Program) (n : Nat) (cx : Cx) (ops : Array Oper) (K : St → Prop) (E : List PanicEntry → St → Prop) (pend : List (Nat × Oper)) (st : St) : Prop :=
 dstOk n ops = true → pendOk ops pend → ∀ (gb g : Nat → Value) (a : Act) (w : World) (b : Began), SB [] b w → Rep n cx gb st a b.w → Rep n cx g st a w → Next st.h gb st.x b.w st.h g st.x w →
  wpAnyH P .any ops (lift n cx (opost K E)) (SB [] b) pend.length (listedOf ops.size pend) a w
section
variable {P : Program} {n : Nat} {cx : Cx} {ops : Array Oper} {K : St → Prop} {E : List PanicEntry → St → Prop} {i : Nat} {o : Oper} {dl pl pend q : List (Nat × Oper)} {s : List (Nat × V)} {h : Heap} {x d : Nat} {v : V}
theorem VAnyO.load (he : cutAt i pend = some (o, dl, pl, q)) (hw : wantedV ops o s = some true) (hs : takeAt ops pend i = true) (hd : o.dst = some d) (h1 : VLoad P n cx [] o ⟨s, h, x⟩ v) (h2 : VAnyO P n cx ops K E q ⟨(d, v) :: s, h, x⟩) : VAnyO P n cx ops K E pend ⟨s, h, x⟩ := by
 obtain ⟨he, hq⟩ := cutAt_eq he
 subst he hq
 intro hn hp gb g a w b hS rb r hx
 obtain ⟨ho, hi, hp'⟩ := hp.drop
 obtain ⟨mv, hv, hrun⟩ := h1 gb a b.w rb
 have hdl := dstOk_lt hn i d (by rw [ho]; exact hd)
 have rb' : Rep n cx gb ⟨(d, v) :: s, h, x⟩ (a.put o.dst mv) b.w := by rw [hd]; exact rb.put hdl (Next.refl _ _ _ _) rb.h hv
 have r' : Rep n cx g ⟨(d, v) :: s, h, x⟩ (a.put o.dst mv) w := by rw [hd]; exact r.put hdl (Next.refl _ _ _ _) r.h (hx.v hv)
 exact vany_take hs hp (.inl ⟨wantedV_is r hn hw, fun w' hS' => hrun w' (fun k hk _ => hS'.2 k hk (fun id hid => by cases hid))⟩) hS (h2 hn hp' gb g _ w b hS rb' r' hx)
theorem VAnyO.pure (he : cutAt i pend = some (o, dl, pl, q)) (hw : wantedV ops o s = some true) (hs : takeAt ops pend i = true) (hd : o.dst = some d) (h1 : VPure P n cx o ⟨s, h, x⟩ v) (h2 : VAnyO P n cx ops K E q ⟨(d, v) :: s, h, x⟩) : VAnyO P n cx ops K E pend ⟨s, h, x⟩ := by
 obtain ⟨he, hq⟩ := cutAt_eq he
 subst he hq
 intro hn hp gb g a w b hS rb r hx
 obtain ⟨ho, hi, hp'⟩ := hp.drop
 obtain ⟨mv, hv, hrun⟩ := h1 gb a b.w rb
 have hdl := dstOk_lt hn i d (by rw [ho]; exact hd)
 have rb' : Rep n cx gb ⟨(d, v) :: s, h, x⟩ (a.put o.dst mv) b.w := by rw [hd]; exact rb.put hdl (Next.refl _ _ _ _) rb.h hv
 have r' : Rep n cx g ⟨(d, v) :: s, h, x⟩ (a.put o.dst mv) w := by rw [hd]; exact r.put hdl (Next.refl _ _ _ _) r.h (hx.v hv)
 exact vany_take hs hp (.inl ⟨wantedV_is r hn hw, fun w' _ => hrun w'⟩) hS (h2 hn hp' gb g _ w b hS rb' r' hx)
theorem VAnyO.pass (he : cutAt i pend = some (o, dl, pl, q)) (hw : wantedV ops o s = some false) (hs : takeAt ops pend i = true) (hd : o.dst = some d) (h2 : VAnyO P n cx ops K E q ⟨(d, .tup []) :: s, h, x⟩) : VAnyO P n cx ops K E pend ⟨s, h, x⟩ := by
 obtain ⟨he, hq⟩ := cutAt_eq he
 subst he hq
 intro hn hp gb g a w b hS rb r hx
 obtain ⟨ho, hi, hp'⟩ := hp.drop
 have hdl := dstOk_lt hn i d (by rw [ho]; exact hd)
 have rb' : Rep n cx gb ⟨(d, .tup []) :: s, h, x⟩ (a.put o.dst undef) b.w := by rw [hd]; exact rb.put hdl (Next.refl _ _ _ _) rb.h (.tup [] #[] rfl (fun i c m hc hm => by cases hc))
 have r' : Rep n cx g ⟨(d, .tup []) :: s, h, x⟩ (a.put o.dst undef) w := by rw [hd]; exact r.put hdl (Next.refl _ _ _ _) r.h (.tup [] #[] rfl (fun i c m hc hm => by cases hc))
 exact vany_take hs hp (.inr ⟨wantedV_is r hn hw, rfl⟩) hS (h2 hn hp' gb g _ w b hS rb' r' hx)
theorem VAnyO.says {u : V} (hd : lk s d = some u) (e : u = v) (H : VAnyO P n cx ops K E pend ⟨(d, v) :: s, h, x⟩) : VAnyO P n cx ops K E pend ⟨s, h, x⟩ := fun hn hp gb g a w b hS rb r hx =>
 H hn hp gb g a w b hS (rb.same (over_same (by rw [hd, e]))) (r.same (over_same (by rw [hd, e]))) hx
theorem VAnyO.bool {c : Bool} (hd : lk s d = some (.val (.bool c))) (ht : c = true → VAnyO P n cx ops K E pend ⟨(d, .val (.bool true)) :: s, h, x⟩) (hf : c = false → VAnyO P n cx ops K E pend ⟨(d, .val (.bool false)) :: s, h, x⟩) : VAnyO P n cx ops K E pend ⟨s, h, x⟩ := by
 cases c with
 | true => exact VAnyO.says hd rfl (ht rfl)
 | false => exact VAnyO.says hd rfl (hf rfl)
theorem VAnyO.done {st : St} (h : K st) : VAnyO P n cx ops K E [] st := by
 intro hn hp gb g a w b hS rb r hx
 have hr : Region.ready .any ops (listedOf ops.size []) = [] := by
  refine List.eq_nil_iff_forall_not_mem.2 (fun j hj => ?_)
  obtain ⟨h1, o, h2, _⟩ := mem_ready.1 hj
  have hlt := (Array.getElem?_eq_some_iff.1 h2).1
  rw [Array.getD_eq_getD_getElem?, listedOf_get, if_pos hlt] at h1
  simp at h1
 exact wpAnyH_done hr ⟨g, st, r, h⟩ _
theorem VAny.call1 {c : Value} (hr : readyAt ops pend = [i]) (he : cutAt i pend = some (o, dl, pl, q)) (hw : wantedV ops o s = some true) (hd : o.dst = some d) (h1 : VOp P n cx [] o (fun v' h' x' => v' = .val c ∧ h' = h ∧ x' = x) E ⟨s, h, x⟩) (h2 : VAnyO P n cx ops K E q ⟨(d, .val c) :: s, h, x⟩) : VAny P n cx true [] ops K E [] pend ⟨s, h, x⟩ := by
 obtain ⟨he, hq⟩ := cutAt_eq he
 subst he hq
 intro hn hp g a w r
 simp only [List.nil_append] at hp ⊢
 have e : (dl ++ (i, o) :: pl).length = (dl ++ pl).length + 1 := by simp; omega
 rw [e]
 refine wpAnyH_all hr (by simp) (fun j hj => ?_)
 obtain rfl := List.mem_singleton.1 hj
 obtain ⟨ho, hi, hp'⟩ := hp.drop
 have hwant := wantedV_is r hn hw
 have hdl := dstOk_lt hn j d (by rw [ho]; exact hd)
 rw [listedOf_set hi hp.2]
 unfold wpOp
 simp only [ho, hwant, if_true]
 left
 refine h1 g a w r _ _ ?_ ?_
 ·intro g' v mv h' x' w' hk hh hv hx ht
  obtain ⟨rfl, rfl, rfl⟩ := hk
  have hb' := (Link.start (m := []) r).step (m' := []) (fun _ h => h) hx ht
  have hv0 : VRep (Rd cx.z h' g w) (gvOf h' g) x' (.val c) mv := by
   cases hv with
   | val _ hz => exact .val _ hz
  refine ⟨hb'.s, h2 hn hp' g g' _ w' _ hb'.s ?_ ?_ hx⟩
  ·rw [hd]; exact r.put hdl (Next.refl _ _ _ _) r.h hv0
  ·rw [hd]; exact r.put hdl hx hh hv
 ·intro c g' st' w' he hh
  exact ⟨r.defers, g', st', hh, he⟩
end
end Go.Proofs.Ytfjfbapiheehaaa.V
end
section
set_option linter.unusedVariables false
set_option linter.unusedSimpArgs false
namespace Go.Proofs.Ytfjfbapiheehaaa.V
open Go Go.RowKit Go.Proofs.Ytfjfbapiheehaaa.DG
set_option maxHeartbeats 8000000 in
theorem rinner_v (g : Gr) (w : List Spot) (hg : Sized g) (hw : w.length ≤ 1000000) : VCalls Try.prog 24 [gV g, sV w] [] 0 (Gives (.sl 2 ((innerS g w).map encP))) := by
 have ht := hg.terms
 have hn := hg.names
 have hsl := spots_len g
 refine VCalls.enterD (n := 73) Try.func24 rfl rfl (by simp) rfl (fun cx hcx => ?_)
 (repeat (first | ((with_reducible refine VOps.same ?_); (first | (refine VOps.nil ?_; try dsimp only [VThen, VBlock]) | refine VOps.vP (VPure.move rfl rfl) ?_ | refine VOps.vP (VPure.assign rfl rfl) ?_ | refine VOps.vV (VLoad.boxA rfl rfl rfl (by rfl) (leR (by rfl)) (by decide)) ?_ | refine VOps.box rfl rfl (by kernel_rfl) rfl rfl rfl rfl ?_)) | refine VCode.seq ?_ | refine VCode.region rfl ?_))
 refine VOps.gives rfl Try.func22 rfl (by kernel_rfl) rfl rfl rfl rfl rfl rfl rfl rfl (rcomps_v g w hg hw) ?_
 (repeat (first | ((with_reducible refine VOps.same ?_); (first | (refine VOps.nil ?_; try dsimp only [VThen, VBlock]) | refine VOps.vP (VPure.assign rfl rfl) ?_ | refine VOps.vV (VLoad.boxA rfl rfl rfl (by rfl) (leR (by rfl)) (by decide)) ?_)) | refine VCode.seq ?_ | refine VCode.region rfl ?_))
 refine VOps.gives rfl Try.func19 rfl (by kernel_rfl) rfl rfl rfl rfl rfl rfl rfl rfl (rspots_v g hg) ?_
 (repeat (first | ((with_reducible refine VOps.same ?_); (first | (refine VOps.nil ?_; try dsimp only [VThen, VBlock]) | refine VOps.vP (VPure.assign rfl rfl) ?_)) | refine VCode.seq ?_ | refine VCode.region rfl ?_ | refine VCode.block ?_))
 refine VCode.nilObj 7 44 2 rfl ?_
 refine VCode.loop (fun m st => ∃ (k : Nat) (out : List Spot), k ≤ (spots g).length ∧ m = (spots g).length - k ∧ out = ((spots g).take k).filter (isInner g w) ∧ st = ⟨[(8, .val (.int .i64 (k : Int))), (7, .ref 1), (6, sV (spots g)), (5, .sl 1 ((comps g w).map encN)), (1, sV w), (2, .ptr 0 0)], [(0, gO g), (1, .arr 44 2 (out.map encP))], 2⟩) (spots g).length ?_ ?_
 ·(refine Less.mk (l := [0, 1]) hcx ?ss ?hh rfl (by decide) rfl ⟨0, [], by omega, by omega, rfl, rfl⟩; (case ss => repeat (first | exact SubS.nil | refine SubS.cons rfl rfl ?_ | refine SubS.cons (ciI (by omega)) rfl ?_ | refine SubS.cons (ciB (by assumption)) rfl ?_)); (case hh => repeat (first | exact SubH.nil | refine SubH.cons rfl rfl rfl ?_)))
 rintro m st ⟨k, out, hk, rfl, hout, rfl⟩
 have hol : out.length ≤ 480 := by
  have := List.length_filter_le (isInner g w) ((spots g).take k)
  rw [List.length_take] at this
  rw [hout]; omega
 cases hq : (spots g)[k]? with
 | some x =>
  have hlt : k < (spots g).length := (List.getElem?_eq_some_iff.1 hq).1
  have hnx := take_filter (p := isInner g w) hq
  rw [← hout] at hnx
  obtain ⟨hG, i1, j1, r1, s1, a1, b1, hsp⟩ := spot_at (List.mem_of_getElem? hq)
  have hr1 := hsp.hr
  have hs1 := hsp.hs
  have hl1 := hsp.hl
  have hy1 := hsp.hy
  have ha1 := hsp.ha
  have hb1 := hsp.hb
  have hr1l := (List.getElem?_eq_some_iff.1 hr1).1
  have hs1l := (List.getElem?_eq_some_iff.1 hs1).1
  have hcl := comps_len hG w
  have e1 : r1.left - (g.terms.length : Int) = (a1 : Int) := by omega
  have e2 : s1 - (g.terms.length : Int) = (b1 : Int) := by omega
  have hca := comps_get hG w ha1
  have hcb := comps_get hG w hb1
  have hI : isInner g w x = (!isIn w x && decide ((compOf g w a1 : Int) = (compOf g w b1 : Int))) := by
   unfold isInner inS
   rw [hsp.he]
   congr 1
   rw [decide_eq_decide]
   show compOf g w a1 = compOf g w b1 ↔ _
   omega
  obtain rfl := hsp.hx
  (repeat (first | ((with_reducible refine VOps.same ?_); (first | (refine VOps.nil ?_; try dsimp only [VThen, VBlock]) | refine VOps.vP (VPure.move rfl rfl) ?_ | refine VOps.vP (VPure.len_map TI.und' rfl rfl) ?_ | refine VOps.vP (VPure.lss rfl rfl rfl) ?_)) | refine VCode.seq ?_ | refine VCode.region rfl ?_))
  refine VCode.cond_t rfl (decide_eq_true (by omega)) ?_
  (repeat (first | refine VCode.seq ?_ | refine VCode.block ?_ | refine VCode.skip ?_))
  refine VCode.draw [2] rfl ?_
  (repeat (first | ((with_reducible refine VOps.same ?_); (first | (refine VOps.nil ?_; try dsimp only [VThen, VBlock]) | refine VOps.vP (VPure.move rfl rfl) ?_ | refine VOps.vP (VPure.idx_map rfl rfl rfl (by assumption)) ?_ | refine VOps.vP (VPure.field_el rfl rfl) ?_ | refine VOps.vP (VPure.field_ptr rfl rfl rfl) ?_ | refine VOps.vV (VLoad.el1 rfl rfl rfl (by rfl)) ?_ | refine VOps.vV (VLoad.box1 rfl rfl rfl rfl (by rfl) (by decide)) ?_ | refine VOps.vV (VLoad.elA rfl rfl (by rfl) (leR (by rfl))) ?_ | refine VOps.alloc rfl rfl (by kernel_rfl) rfl (by kernel_rfl) rfl ?_ | refine VOps.store rfl rfl (by kernel_rfl) rfl rfl rfl rfl rfl rfl (leR (by rfl)) rfl ?_)) | refine VCode.seq ?_))
  refine VCode.drawAny [] (by kernel_rfl) rfl ?_
  refine VAny.pureI (i := 0) rfl rfl (by kernel_rfl) rfl (VPure.move rfl rfl) ?_
  refine VAny.pureI (i := 1) rfl rfl (by kernel_rfl) rfl (VPure.move rfl rfl) ?_
  refine VAny.pureI (i := 2) rfl rfl (by kernel_rfl) rfl (VPure.move rfl rfl) ?_
  refine VAny.pureI (i := 3) rfl rfl (by kernel_rfl) rfl (VPure.idx_map rfl rfl rfl (by assumption)) ?_
  refine VAny.loadI (i := 4) rfl rfl (by kernel_rfl) rfl (VLoad.elA rfl rfl (by rfl) (leR (by rfl))) ?_
  refine VAny.call1 (i := 5) (by kernel_rfl) rfl rfl rfl (VOp.pure rfl Try.func28 rfl rfl rfl rfl rfl rfl (has_v w ((i1 : Int), (j1 : Int)) hw)) ?_
  refine VAnyO.pure (i := 6) rfl rfl (by kernel_rfl) rfl (VPure.not rfl rfl) ?_
  refine VAnyO.pure (i := 7) rfl rfl (by kernel_rfl) rfl (VPure.move rfl rfl) ?_
  refine VAnyO.bool (d := 37) rfl (fun h1 => ?_) (fun h1 => ?_)
  ·skip
   refine VAnyO.pure (i := 8) rfl rfl (by kernel_rfl) rfl (VPure.move rfl rfl) ?_
   refine VAnyO.pure (i := 9) rfl rfl (by kernel_rfl) rfl (VPure.field_ptr rfl rfl rfl) ?_
   refine VAnyO.load (i := 10) rfl rfl (by kernel_rfl) rfl (VLoad.box1 rfl rfl rfl rfl (by rfl) (by decide)) ?_
   refine VAnyO.pure (i := 11) rfl rfl (by kernel_rfl) rfl (VPure.field_ptr rfl rfl rfl) ?_
   refine VAnyO.load (i := 12) rfl rfl (by kernel_rfl) rfl (VLoad.box1 rfl rfl rfl rfl (by rfl) (by decide)) ?_
   refine VAnyO.pure (i := 13) rfl rfl (by kernel_rfl) rfl (VPure.len_map TI.und' rfl rfl) ?_
   refine VAnyO.pure (i := 14) rfl rfl (by kernel_rfl) rfl (VPure.subK rfl rfl rfl (by omega)) ?_
   refine VAnyO.says (d := 44) (v := .val (.int .i64 (a1 : Int))) rfl (by rw [e1]) ?_
   refine VAnyO.pure (i := 15) rfl rfl (by kernel_rfl) rfl (VPure.idx_map rfl rfl rfl hca) ?_
   refine VAnyO.load (i := 16) rfl rfl (by kernel_rfl) rfl (VLoad.el1 rfl rfl rfl (by rfl)) ?_
   refine VAnyO.pure (i := 17) rfl rfl (by kernel_rfl) rfl (VPure.move rfl rfl) ?_
   refine VAnyO.pure (i := 18) rfl rfl (by kernel_rfl) rfl (VPure.field_ptr rfl rfl rfl) ?_
   refine VAnyO.load (i := 19) rfl rfl (by kernel_rfl) rfl (VLoad.box1 rfl rfl rfl rfl (by rfl) (by decide)) ?_
   refine VAnyO.pure (i := 20) rfl rfl (by kernel_rfl) rfl (VPure.move rfl rfl) ?_
   refine VAnyO.pure (i := 21) rfl rfl (by kernel_rfl) rfl (VPure.move rfl rfl) ?_
   refine VAnyO.pure (i := 22) rfl rfl (by kernel_rfl) rfl (VPure.idx_map rfl rfl rfl (by assumption)) ?_
   refine VAnyO.pure (i := 23) rfl rfl (by kernel_rfl) rfl (VPure.field_el rfl rfl) ?_
   refine VAnyO.load (i := 24) rfl rfl (by kernel_rfl) rfl (VLoad.el1 rfl rfl rfl (by rfl)) ?_
   refine VAnyO.pure (i := 25) rfl rfl (by kernel_rfl) rfl (VPure.idx_map rfl rfl rfl hs1) ?_
   refine VAnyO.load (i := 26) rfl rfl (by kernel_rfl) rfl (VLoad.el1 rfl rfl rfl (by rfl)) ?_
   refine VAnyO.pure (i := 27) rfl rfl (by kernel_rfl) rfl (VPure.field_ptr rfl rfl rfl) ?_
   refine VAnyO.load (i := 28) rfl rfl (by kernel_rfl) rfl (VLoad.box1 rfl rfl rfl rfl (by rfl) (by decide)) ?_
   refine VAnyO.pure (i := 29) rfl rfl (by kernel_rfl) rfl (VPure.len_map TI.und' rfl rfl) ?_
   refine VAnyO.pure (i := 30) rfl rfl (by kernel_rfl) rfl (VPure.subK rfl rfl rfl (by omega)) ?_
   refine VAnyO.says (d := 60) (v := .val (.int .i64 (b1 : Int))) rfl (by rw [e2]) ?_
   refine VAnyO.pure (i := 31) rfl rfl (by kernel_rfl) rfl (VPure.idx_map rfl rfl rfl hcb) ?_
   refine VAnyO.load (i := 32) rfl rfl (by kernel_rfl) rfl (VLoad.el1 rfl rfl rfl (by rfl)) ?_
   refine VAnyO.pure (i := 33) rfl rfl (by kernel_rfl) rfl (VPure.eqi rfl rfl rfl) ?_
   refine VAnyO.pure (i := 34) rfl rfl (by kernel_rfl) rfl (VPure.pick_t rfl rfl rfl) ?_
   refine VAnyO.done ?_
   try dsimp only [VThen, VBlock]
   refine VCode.cond rfl (fun h2 => ?_) (fun h2 => ?_)
   ·have hyes : isInner g w ((i1 : Int), (j1 : Int)) = true := by rw [hI, h1, h2]; rfl
    rw [if_pos hyes] at hnx
    (repeat (first | ((with_reducible refine VOps.same ?_); (first | refine VOps.vP (VPure.move rfl rfl) ?_ | refine VOps.vP (VPure.idx_map rfl rfl rfl (by assumption)) ?_ | refine VOps.vV (VLoad.elA rfl rfl (by rfl) (leR (by rfl))) ?_ | refine VOps.one rfl rfl (by kernel_rfl) rfl (by rfl) (by decide) (by decide) rfl (by rfl) (by rfl) ?_)) | refine VCode.region rfl ?_))
    refine VOps.append (zs := (out ++ [((i1 : Int), (j1 : Int))]).map encP) rfl rfl (by kernel_rfl) rfl (by rfl) (by decide) rfl (.arr rfl) rfl (.arr rfl) (by simp only [List.length_append, List.length_cons, List.length_nil, List.length_map]; unfold most; omega) (by simp only [List.length_append, List.length_cons, List.length_nil, List.length_map]; unfold most; omega) rfl ( by rw [List.map_append]; rfl) ?_
    (repeat (first | ((with_reducible refine VOps.same ?_); (first | (refine VOps.nil ?_; try dsimp only [VThen, VBlock]) | refine VOps.vP (VPure.move rfl rfl) ?_ | refine VOps.vP (VPure.assign rfl rfl) ?_ | refine VOps.vP (VPure.addK rfl rfl rfl (by omega)) ?_)) | refine VCode.region rfl ?_))
    (refine Less.mk (l := [0, 4]) hcx ?ss ?hh rfl (by decide) rfl ⟨_, ?_, k + 1, out ++ [((i1 : Int), (j1 : Int))], by omega, rfl, hnx.symm, rfl⟩; (case ss => repeat (first | exact SubS.nil | refine SubS.cons rfl rfl ?_ | refine SubS.cons (ciI (by omega)) rfl ?_ | refine SubS.cons (ciB (by assumption)) rfl ?_)); (case hh => repeat (first | exact SubH.nil | refine SubH.cons rfl rfl rfl ?_)))
    omega
   ·have hno : isInner g w ((i1 : Int), (j1 : Int)) = false := by rw [hI, h1, h2]; rfl
    rw [if_neg (by rw [hno]; simp), List.append_nil] at hnx
    (repeat (first | ((with_reducible refine VOps.same ?_); (first | (refine VOps.nil ?_; try dsimp only [VThen, VBlock]) | refine VOps.vP (VPure.move rfl rfl) ?_ | refine VOps.vP (VPure.assign rfl rfl) ?_ | refine VOps.vP (VPure.addK rfl rfl rfl (by omega)) ?_)) | refine VCode.region rfl ?_ | refine VCode.skip ?_))
    (refine Less.mk (l := [0, 1]) hcx ?ss ?hh rfl (by decide) rfl ⟨_, ?_, k + 1, out, by omega, rfl, hnx.symm, rfl⟩; (case ss => repeat (first | exact SubS.nil | refine SubS.cons rfl rfl ?_ | refine SubS.cons (ciI (by omega)) rfl ?_ | refine SubS.cons (ciB (by assumption)) rfl ?_)); (case hh => repeat (first | exact SubH.nil | refine SubH.cons rfl rfl rfl ?_)))
    omega
  ·have hno : isInner g w ((i1 : Int), (j1 : Int)) = false := by rw [hI, h1]; rfl
   rw [if_neg (by rw [hno]; simp), List.append_nil] at hnx
   refine VAnyO.pass (i := 8) rfl rfl (by kernel_rfl) rfl ?_
   refine VAnyO.pass (i := 9) rfl rfl (by kernel_rfl) rfl ?_
   refine VAnyO.pass (i := 10) rfl rfl (by kernel_rfl) rfl ?_
   refine VAnyO.pass (i := 11) rfl rfl (by kernel_rfl) rfl ?_
   refine VAnyO.pass (i := 12) rfl rfl (by kernel_rfl) rfl ?_
   refine VAnyO.pass (i := 13) rfl rfl (by kernel_rfl) rfl ?_
   refine VAnyO.pass (i := 14) rfl rfl (by kernel_rfl) rfl ?_
   refine VAnyO.pass (i := 15) rfl rfl (by kernel_rfl) rfl ?_
   refine VAnyO.pass (i := 16) rfl rfl (by kernel_rfl) rfl ?_
   refine VAnyO.pass (i := 17) rfl rfl (by kernel_rfl) rfl ?_
   refine VAnyO.pass (i := 18) rfl rfl (by kernel_rfl) rfl ?_
   refine VAnyO.pass (i := 19) rfl rfl (by kernel_rfl) rfl ?_
   refine VAnyO.pass (i := 20) rfl rfl (by kernel_rfl) rfl ?_
   refine VAnyO.pass (i := 21) rfl rfl (by kernel_rfl) rfl ?_
   refine VAnyO.pass (i := 22) rfl rfl (by kernel_rfl) rfl ?_
   refine VAnyO.pass (i := 23) rfl rfl (by kernel_rfl) rfl ?_
   refine VAnyO.pass (i := 24) rfl rfl (by kernel_rfl) rfl ?_
   refine VAnyO.pass (i := 25) rfl rfl (by kernel_rfl) rfl ?_
   refine VAnyO.pass (i := 26) rfl rfl (by kernel_rfl) rfl ?_
   refine VAnyO.pass (i := 27) rfl rfl (by kernel_rfl) rfl ?_
   refine VAnyO.pass (i := 28) rfl rfl (by kernel_rfl) rfl ?_
   refine VAnyO.pass (i := 29) rfl rfl (by kernel_rfl) rfl ?_
   refine VAnyO.pass (i := 30) rfl rfl (by kernel_rfl) rfl ?_
   refine VAnyO.pass (i := 31) rfl rfl (by kernel_rfl) rfl ?_
   refine VAnyO.pass (i := 32) rfl rfl (by kernel_rfl) rfl ?_
   refine VAnyO.pass (i := 33) rfl rfl (by kernel_rfl) rfl ?_
   refine VAnyO.pure (i := 34) rfl rfl (by kernel_rfl) rfl (VPure.pick_f rfl rfl rfl) ?_
   refine VAnyO.done ?_
   try dsimp only [VThen, VBlock]
   refine VCode.cond_f rfl rfl ?_
   (repeat (first | ((with_reducible refine VOps.same ?_); (first | (refine VOps.nil ?_; try dsimp only [VThen, VBlock]) | refine VOps.vP (VPure.move rfl rfl) ?_ | refine VOps.vP (VPure.assign rfl rfl) ?_ | refine VOps.vP (VPure.addK rfl rfl rfl (by omega)) ?_)) | refine VCode.region rfl ?_ | refine VCode.skip ?_))
   (refine Less.mk (l := [0, 1]) hcx ?ss ?hh rfl (by decide) rfl ⟨_, ?_, k + 1, out, by omega, rfl, hnx.symm, rfl⟩; (case ss => repeat (first | exact SubS.nil | refine SubS.cons rfl rfl ?_ | refine SubS.cons (ciI (by omega)) rfl ?_ | refine SubS.cons (ciB (by assumption)) rfl ?_)); (case hh => repeat (first | exact SubH.nil | refine SubH.cons rfl rfl rfl ?_)))
   omega
 | none =>
  have hge : (spots g).length ≤ k := List.getElem?_eq_none_iff.1 hq
  (repeat (first | ((with_reducible refine VOps.same ?_); (first | (refine VOps.nil ?_; try dsimp only [VThen, VBlock]) | refine VOps.vP (VPure.move rfl rfl) ?_ | refine VOps.vP (VPure.len_map TI.und' rfl rfl) ?_ | refine VOps.vP (VPure.lss rfl rfl rfl) ?_)) | refine VCode.seq ?_ | refine VCode.region rfl ?_))
  refine VCode.cond_f rfl (decide_eq_false (by omega)) ?_
  (repeat (first | ((with_reducible refine VOps.same ?_); (first | (refine VOps.nil ?_; try dsimp only [VThen, VBlock]) | refine VOps.vP (VPure.move rfl rfl) ?_ | refine VOps.vP (VPure.assign rfl rfl) ?_)) | refine VCode.seq ?_ | refine VCode.region rfl ?_ | refine VCode.exit ?_))
  refine VCode.freeze (id := 1) rfl ?_
  refine VCode.retD rfl rfl (.tmp rfl .nil) ?_
  rw [hout, inner_is, List.take_of_length_le hge]; rfl
end Go.Proofs.Ytfjfbapiheehaaa.V
end
section
set_option linter.unusedVariables false
set_option linter.unusedSimpArgs false
namespace Go.Proofs.Ytfjfbapiheehaaa.V
open Go Go.RowKit Go.Proofs.Ytfjfbapiheehaaa.DG
set_option maxHeartbeats 4000000 in
theorem ron_a (g : Gr) (w : List Spot) (hg : Sized g) (hw : w.length ≤ 1000000) : VCalls Try.prog 15 [gV g, sV w] [] 0 (Gives (.sl 1 ((onOf g w).map encRow))) := by
 by_cases hG : GoodG g
 ·exact ron_v g w hg hw hG
 ·refine VCalls.enterD (n := 126) Try.func15 rfl rfl (by simp) rfl (fun cx hcx => ?_)
  (repeat (first | ((with_reducible refine VOps.same ?_); (first | (refine VOps.nil ?_; try dsimp only [VThen, VBlock]) | refine VOps.vP (VPure.assign rfl rfl) ?_ | refine VOps.vV (VLoad.boxA rfl rfl rfl (by rfl) (leR (by rfl)) (by decide)) ?_ | refine VOps.box rfl rfl (by kernel_rfl) rfl rfl rfl rfl ?_)) | refine VCode.seq ?_ | refine VCode.region rfl ?_))
  refine VOps.pure rfl Try.func26 rfl (by kernel_rfl) rfl rfl rfl rfl rfl rfl rfl (rgood_v g hg) ?_
  (repeat (first | ((with_reducible refine VOps.same ?_); (first | (refine VOps.nil ?_; try dsimp only [VThen, VBlock]) | refine VOps.vP (VPure.not rfl rfl) ?_))))
  refine VCode.cond_t rfl (by rw [decide_eq_false hG]; rfl) ?_
  (repeat (first | ((with_reducible refine VOps.same ?_); (first | (refine VOps.nil ?_; try dsimp only [VThen, VBlock]) | refine VOps.vP (VPure.assign rfl rfl) ?_)) | refine VCode.seq ?_ | refine VCode.region rfl ?_))
  refine VCode.nilObj 4 33 1 rfl ?_
  refine VCode.freeze (id := 1) rfl ?_
  refine VCode.retD rfl rfl (.tmp rfl .nil) ?_
  have e : onOf g w = [] := by unfold onOf; rw [if_neg hG]
  rw [e]; rfl
theorem intsN_t (a : List Nat) (h : a.length ≤ 1000000) : VCalls Try.prog 20 [.sl 1 (a.map encN), .sl 1 (a.map encN)] [] 0 (Gives (.val (.bool true))) := by
 have := ints_v a a h
 rwa [decide_eq_true rfl] at this
set_option maxRecDepth 20000 in
set_option maxHeartbeats 16000000 in
theorem dtells_v (g : Gr) (w : List Spot) (hw0 : w.length ≤ 1000000000000000) : VCalls Try.prog 3 [gV g, sV w] [] 0 (Gives (.val (.bool true))) := by
 refine VCalls.enterD (n := 86) Try.func3 rfl rfl (by simp) rfl (fun cx hcx => ?_)
 (repeat (first | ((with_reducible refine VOps.same ?_); (first | (refine VOps.nil ?_; try dsimp only [VThen, VBlock]) | refine VOps.vP (VPure.assign rfl rfl) ?_ | refine VOps.vV (VLoad.boxA rfl rfl rfl (by rfl) (leR (by rfl)) (by decide)) ?_ | refine VOps.box rfl rfl (by kernel_rfl) rfl rfl rfl rfl ?_)) | refine VCode.seq ?_ | refine VCode.region rfl ?_))
 refine VOps.pure rfl Try.func11 rfl (by kernel_rfl) rfl rfl rfl rfl rfl rfl rfl (large_v g) ?_
 (repeat (first | ((with_reducible refine VOps.same ?_); (first | refine VOps.vP (VPure.move rfl rfl) ?_))))
 refine VOps.bool (d := 12) rfl (fun h1 => ?_) (fun h1 => ?_)
 ·(repeat (first | ((with_reducible refine VOps.same ?_); (first | (refine VOps.nil ?_; try dsimp only [VThen, VBlock]) | refine VOps.vP (VPure.pick_t rfl rfl rfl) ?_ | refine VOps.passv rfl (by kernel_rfl) rfl ?_))))
  refine VCode.cond_t rfl rfl ?_
  (repeat (first | refine VCode.seq ?_ | refine VCode.region rfl ?_))
  refine VOps.pure rfl Try.func12 rfl (by kernel_rfl) rfl rfl rfl rfl rfl rfl rfl (wakes_v) ?_
  (repeat (first | ((with_reducible refine VOps.same ?_); (first | (refine VOps.nil ?_; try dsimp only [VThen, VBlock]) | refine VOps.vP (VPure.assign rfl rfl) ?_))))
  refine VCode.retD rfl rfl (.tmp rfl .nil) ?_
  rfl
 obtain ⟨hg, _⟩ := small_sized h1
 have hn := hg.names
 have ht := hg.terms
 have hr := hg.rules
 (repeat (first | ((with_reducible refine VOps.same ?_); (first | (refine VOps.nil ?_; try dsimp only [VThen, VBlock]) | refine VOps.vP (VPure.move rfl rfl) ?_ | refine VOps.vP (VPure.len_map TI.und' rfl rfl) ?_ | refine VOps.vP (VPure.gtr rfl rfl rfl) ?_ | refine VOps.vP (VPure.pick_f rfl rfl rfl) ?_))))
 refine VCode.cond rfl (fun h3 => ?_) (fun h3 => ?_)
 ·skip
  (repeat (first | refine VCode.seq ?_ | refine VCode.region rfl ?_))
  refine VOps.pure rfl Try.func12 rfl (by kernel_rfl) rfl rfl rfl rfl rfl rfl rfl (wakes_v) ?_
  (repeat (first | ((with_reducible refine VOps.same ?_); (first | (refine VOps.nil ?_; try dsimp only [VThen, VBlock]) | refine VOps.vP (VPure.assign rfl rfl) ?_))))
  refine VCode.retD rfl rfl (.tmp rfl .nil) ?_
  rfl
 have hw := of_decide_eq_false h3
 have hsl := spots_len g
 have hI : (innerS g w).length ≤ 1000000 := Nat.le_trans (List.length_filter_le _ _) (Nat.le_trans (restS_len g w) (by decide))
 have hN : (onOf g w).length ≤ 4000 := by
  by_cases hG : GoodG g
  ·rw [onOf_len hG]; exact hn
  ·unfold onOf; rw [if_neg hG]; simp
 have hC : (comps g w).length ≤ 1000000 := by unfold comps; simp; omega
 (repeat (first | ((with_reducible refine VOps.same ?_); (first | refine VOps.vV (VLoad.boxA rfl rfl rfl (by rfl) (leR (by rfl)) (by decide)) ?_)) | refine VCode.seq ?_ | refine VCode.region rfl ?_ | refine VCode.skip ?_))
 (refine VOps.callL (ch := []) [] rfl Try.func13 rfl (by kernel_rfl) rfl rfl rfl rfl ?hh (by decide) rfl rfl rfl (own_o g hg) rfl (by rfl) rfl ?_; (case hh => repeat (first | exact SubH.nil | refine SubH.cons rfl rfl rfl ?_)))
 refine VOps.freeze (id := 1) rfl ?_
 refine VOps.lit (rows := []) rfl rfl (by kernel_rfl) rfl (by kernel_rfl) (by rfl) (by decide) (by decide) rfl (by rfl) (by rfl) (by rfl) (by rfl) ?_
 (repeat (first | ((with_reducible refine VOps.same ?_); (first | refine VOps.vP (VPure.move rfl rfl) ?_))))
 refine VOps.append (zs := w.map encP) rfl rfl (by kernel_rfl) rfl (by rfl) (by decide) rfl (.arr rfl) rfl (.sl) (by simp only [List.length_append, List.length_cons, List.length_nil, List.length_map]; unfold most; omega) (by simp only [List.length_append, List.length_cons, List.length_nil, List.length_map]; unfold most; omega) rfl ( by simp) ?_
 refine VOps.freeze (id := 4) rfl ?_
 (repeat (first | ((with_reducible refine VOps.same ?_); (first | (refine VOps.nil ?_; try dsimp only [VThen, VBlock]) | refine VOps.vP (VPure.assign rfl rfl) ?_ | refine VOps.alloc rfl rfl (by kernel_rfl) rfl (by kernel_rfl) rfl ?_ | refine VOps.store rfl rfl (by kernel_rfl) rfl rfl rfl rfl rfl rfl (leR (by rfl)) rfl ?_)) | refine VCode.seq ?_))
 refine VCode.lessTo ⟨[(5, .ptr 1 0), (6, sV w), (1, sV w), (2, .ptr 0 0)], [(0, gO g), (1, gO g)], 2⟩ ?_ ?_
 ·(refine Less.mk (l := [0, 5]) hcx ?ss ?hh rfl (by decide) rfl rfl; (case ss => repeat (first | exact SubS.nil | refine SubS.cons rfl rfl ?_ | refine SubS.cons (ciI (by omega)) rfl ?_ | refine SubS.cons (ciB (by assumption)) rfl ?_)); (case hh => repeat (first | exact SubH.nil | refine SubH.cons rfl rfl rfl ?_)))
 refine VCode.thenTo ⟨[(7, .sl 1 ((onOf g w).map encRow)), (8, .sl 1 ((onOf g w).map encRow)), (5, .ptr 1 0), (6, sV w), (1, sV w), (2, .ptr 0 0)], [(0, gO g), (1, gO g)], 2⟩ ?_ ?_
 ·refine VCode.drawAny [] (by kernel_rfl) rfl ?_
  refine VAny.loadI (i := 0) rfl rfl (by kernel_rfl) rfl (VLoad.boxA rfl rfl rfl (by rfl) (leR (by rfl)) (by decide)) ?_
  refine VAny.pureI (i := 1) rfl rfl (by kernel_rfl) rfl (VPure.move rfl rfl) ?_
  refine VAny.loadI (i := 3) rfl rfl (by kernel_rfl) rfl (VLoad.boxA rfl rfl rfl (by rfl) (leR (by rfl)) (by decide)) ?_
  refine VAny.pureI (i := 4) rfl rfl (by kernel_rfl) rfl (VPure.move rfl rfl) ?_
  refine VAny.movesI (is := [2]) (by kernel_rfl) (by simp) rfl (all1 ?_)
  ·refine VMv.oo rfl rfl rfl rfl (VOp.gives rfl Try.func14 rfl rfl rfl rfl rfl rfl (on_v g w hg (by omega)) rfl) ?_
   refine VAny.movesI (is := [5]) (by kernel_rfl) (by simp) rfl (all1 ?_)
   ·refine VMv.oo rfl rfl rfl rfl (VOp.gives rfl Try.func15 rfl rfl rfl rfl rfl rfl (ron_a g w hg (by omega)) rfl) ?_
    refine VAny.pureI (i := 6) rfl rfl (by kernel_rfl) rfl (VPure.assign rfl rfl) ?_
    refine VAny.pureI (i := 7) rfl rfl (by kernel_rfl) rfl (VPure.assign rfl rfl) ?_
    refine VAny.done ?_
    (refine Less.mk (l := [0, 1]) hcx ?ss ?hh rfl (by decide) rfl rfl; (case ss => repeat (first | exact SubS.nil | refine SubS.cons rfl rfl ?_ | refine SubS.cons (ciI (by omega)) rfl ?_ | refine SubS.cons (ciB (by assumption)) rfl ?_)); (case hh => repeat (first | exact SubH.nil | refine SubH.cons rfl rfl rfl ?_)))
 (repeat (first | ((with_reducible refine VOps.same ?_); (first | (refine VOps.nil ?_; try dsimp only [VThen, VBlock]) | refine VOps.vP (VPure.move rfl rfl) ?_ | refine VOps.vP (VPure.len_map TI.und' rfl rfl) ?_ | refine VOps.vP (VPure.nei rfl rfl rfl) ?_)) | refine VCode.seq ?_ | refine VCode.region rfl ?_))
 refine VCode.cond_f rfl (by simp) ?_
 (repeat (first | ((with_reducible refine VOps.same ?_); (first | (refine VOps.nil ?_; try dsimp only [VThen, VBlock]) | refine VOps.vP (VPure.assign rfl rfl) ?_)) | refine VCode.seq ?_ | refine VCode.region rfl ?_ | refine VCode.block ?_ | refine VCode.skip ?_))
 refine VCode.loop (fun m st => ∃ i : Nat, i ≤ (onOf g w).length ∧ m = (onOf g w).length - i ∧ st = ⟨[(9, .val (.int .i64 (i : Int))), (7, .sl 1 ((onOf g w).map encRow)), (8, .sl 1 ((onOf g w).map encRow)), (5, .ptr 1 0), (6, sV w), (1, sV w), (2, .ptr 0 0)], [(0, gO g), (1, gO g)], 2⟩) (onOf g w).length ?_ ?_
 ·(refine Less.mk (l := [0, 1]) hcx ?ss ?hh rfl (by decide) rfl ⟨0, by omega, by omega, rfl⟩; (case ss => repeat (first | exact SubS.nil | refine SubS.cons rfl rfl ?_ | refine SubS.cons (ciI (by omega)) rfl ?_ | refine SubS.cons (ciB (by assumption)) rfl ?_)); (case hh => repeat (first | exact SubH.nil | refine SubH.cons rfl rfl rfl ?_)))
 rintro m st ⟨i, hi, rfl, rfl⟩
 cases hq : (onOf g w)[i]? with
 | some r =>
  have hlt : i < (onOf g w).length := (List.getElem?_eq_some_iff.1 hq).1
  have hG := onOf_ne hlt
  have hrl : r.length ≤ 1000000 := by
   have hin : i < g.names.length := by rw [← onOf_len hG w]; exact hlt
   rw [onOf_get hG w hin] at hq
   obtain rfl := Option.some.inj hq
   rw [(rowOf_is g w i).1]; omega
  (repeat (first | ((with_reducible refine VOps.same ?_); (first | (refine VOps.nil ?_; try dsimp only [VThen, VBlock]) | refine VOps.vP (VPure.move rfl rfl) ?_ | refine VOps.vP (VPure.len_map TI.und' rfl rfl) ?_ | refine VOps.vP (VPure.lss rfl rfl rfl) ?_)) | refine VCode.seq ?_ | refine VCode.region rfl ?_))
  refine VCode.cond_t rfl (decide_eq_true (by omega)) ?_
  (repeat (first | ((with_reducible refine VOps.same ?_); (first | refine VOps.vP (VPure.move rfl rfl) ?_ | refine VOps.vP (VPure.idx_map rfl rfl rfl (by assumption)) ?_ | refine VOps.vV (VLoad.el1 rfl rfl rfl (by rfl)) ?_)) | refine VCode.seq ?_ | refine VCode.draw [] rfl ?_ | refine VCode.block ?_ | refine VCode.skip ?_))
  refine VOps.pure rfl Try.func16 rfl (by kernel_rfl) rfl rfl rfl rfl rfl rfl rfl (bools_t r hrl) ?_
  (repeat (first | ((with_reducible refine VOps.same ?_); (first | (refine VOps.nil ?_; try dsimp only [VThen, VBlock]) | refine VOps.vP (VPure.not rfl rfl) ?_))))
  refine VCode.cond_f rfl rfl ?_
  (repeat (first | ((with_reducible refine VOps.same ?_); (first | (refine VOps.nil ?_; try dsimp only [VThen, VBlock]) | refine VOps.vP (VPure.move rfl rfl) ?_ | refine VOps.vP (VPure.assign rfl rfl) ?_ | refine VOps.vP (VPure.addK rfl rfl rfl (by omega)) ?_)) | refine VCode.region rfl ?_ | refine VCode.skip ?_))
  (refine Less.mk (l := [0, 1]) hcx ?ss ?hh rfl (by decide) rfl ⟨_, ?_, i + 1, by omega, rfl, rfl⟩; (case ss => repeat (first | exact SubS.nil | refine SubS.cons rfl rfl ?_ | refine SubS.cons (ciI (by omega)) rfl ?_ | refine SubS.cons (ciB (by assumption)) rfl ?_)); (case hh => repeat (first | exact SubH.nil | refine SubH.cons rfl rfl rfl ?_)))
  omega
 | none =>
  have hge : (onOf g w).length ≤ i := List.getElem?_eq_none_iff.1 hq
  (repeat (first | ((with_reducible refine VOps.same ?_); (first | (refine VOps.nil ?_; try dsimp only [VThen, VBlock]) | refine VOps.vP (VPure.move rfl rfl) ?_ | refine VOps.vP (VPure.len_map TI.und' rfl rfl) ?_ | refine VOps.vP (VPure.lss rfl rfl rfl) ?_)) | refine VCode.seq ?_ | refine VCode.region rfl ?_))
  refine VCode.cond_f rfl (decide_eq_false (by omega)) ?_
  (repeat (first | refine VCode.seq ?_ | refine VCode.exit ?_))
  refine VCode.thenTo ⟨[(4, .val (.bool true))], [], 0⟩ ?_ ?_
  ·refine VCode.drawAny [2] (by kernel_rfl) rfl ?_
   refine VAny.loadI (i := 0) rfl rfl (by kernel_rfl) rfl (VLoad.boxA rfl rfl rfl (by rfl) (leR (by rfl)) (by decide)) ?_
   refine VAny.loadI (i := 2) rfl rfl (by kernel_rfl) rfl (VLoad.boxA rfl rfl rfl (by rfl) (leR (by rfl)) (by decide)) ?_
   refine VAny.movesI (is := [1]) (by kernel_rfl) (by simp) rfl (all1 ?_)
   ·(refine VMv.callL (ch := []) [] rfl rfl Try.func18 rfl rfl rfl rfl rfl rfl ?hh (by decide) rfl rfl rfl (spots_o g hg) rfl (by rfl) rfl ?_; (case hh => repeat (first | exact SubH.nil | refine SubH.cons rfl rfl rfl ?_)))
    refine VAny.frz (id := 2) ((spots g).map encP) rfl ?_
    refine VAny.movesI (is := [3]) (by kernel_rfl) (by simp) rfl (all1 ?_)
    ·refine VMv.oo rfl rfl rfl rfl (VOp.gives rfl Try.func19 rfl rfl rfl rfl rfl rfl (rspots_v g hg) rfl) ?_
     refine VAny.movesI (is := [4]) (by kernel_rfl) (by simp) rfl (all1 ?_)
     ·refine VMv.pure rfl rfl Try.func17 rfl rfl rfl rfl rfl rfl rfl rfl (spots_t (spots g) (by omega)) ?_
      refine VAny.pureI (i := 5) rfl rfl (by kernel_rfl) rfl (VPure.move rfl rfl) ?_
      refine VAny.pureI (i := 7) rfl rfl (by kernel_rfl) rfl (VPure.move rfl rfl) ?_
      refine VAny.pureI (i := 10) rfl rfl (by kernel_rfl) rfl (VPure.move rfl rfl) ?_
      refine VAny.movesI (is := [6, 9]) (by kernel_rfl) (by simp) rfl (allC ?_ (all1 ?_))
      ·refine VMv.load rfl rfl rfl (VLoad.boxA rfl rfl rfl (by rfl) (leR (by rfl)) (by decide)) ?_
       refine VAny.movesI (is := [8, 9]) (by kernel_rfl) (by simp) rfl (allC ?_ (all1 ?_))
       ·refine VMv.oo rfl rfl rfl rfl (VOp.gives rfl Try.func21 rfl rfl rfl rfl rfl rfl (comps_v g w hg (by omega)) rfl) ?_
        refine VAny.movesI (is := [9]) (by kernel_rfl) (by simp) rfl (all1 ?_)
        ·refine VMv.load rfl rfl rfl (VLoad.boxA rfl rfl rfl (by rfl) (leR (by rfl)) (by decide)) ?_
         refine VAny.movesI (is := [11]) (by kernel_rfl) (by simp) rfl (all1 ?_)
         ·refine VMv.oo rfl rfl rfl rfl (VOp.gives rfl Try.func22 rfl rfl rfl rfl rfl rfl (rcomps_v g w hg (by omega)) rfl) ?_
          refine VAny.movesI (is := [12]) (by kernel_rfl) (by simp) rfl (all1 ?_)
          ·refine VMv.pure rfl rfl Try.func20 rfl rfl rfl rfl rfl rfl rfl rfl (intsN_t (comps g w) hC) ?_
           refine VAny.pureI (i := 13) rfl rfl (by kernel_rfl) rfl (VPure.pick_t rfl rfl rfl) ?_
           refine VAny.pureI (i := 14) rfl rfl (by kernel_rfl) rfl (VPure.move rfl rfl) ?_
           refine VAny.pureI (i := 16) rfl rfl (by kernel_rfl) rfl (VPure.move rfl rfl) ?_
           refine VAny.pureI (i := 19) rfl rfl (by kernel_rfl) rfl (VPure.move rfl rfl) ?_
           refine VAny.movesI (is := [15, 18]) (by kernel_rfl) (by simp) rfl (allC ?_ (all1 ?_))
           ·refine VMv.load rfl rfl rfl (VLoad.boxA rfl rfl rfl (by rfl) (leR (by rfl)) (by decide)) ?_
            refine VAny.movesI (is := [17, 18]) (by kernel_rfl) (by simp) rfl (allC ?_ (all1 ?_))
            ·refine VMv.oo rfl rfl rfl rfl (VOp.gives rfl Try.func23 rfl rfl rfl rfl rfl rfl (inner_v g w hg (by omega)) rfl) ?_
             refine VAny.movesI (is := [18]) (by kernel_rfl) (by simp) rfl (all1 ?_)
             ·refine VMv.load rfl rfl rfl (VLoad.boxA rfl rfl rfl (by rfl) (leR (by rfl)) (by decide)) ?_
              refine VAny.movesI (is := [20]) (by kernel_rfl) (by simp) rfl (all1 ?_)
              ·refine VMv.oo rfl rfl rfl rfl (VOp.gives rfl Try.func24 rfl rfl rfl rfl rfl rfl (rinner_v g w hg (by omega)) rfl) ?_
               refine VAny.movesI (is := [21]) (by kernel_rfl) (by simp) rfl (all1 ?_)
               ·refine VMv.pure rfl rfl Try.func17 rfl rfl rfl rfl rfl rfl rfl rfl (spots_t (innerS g w) hI) ?_
                refine VAny.pureI (i := 22) rfl rfl (by kernel_rfl) rfl (VPure.pick_t rfl rfl rfl) ?_
                refine VAny.pureI (i := 23) rfl rfl (by kernel_rfl) rfl (VPure.move rfl rfl) ?_
                refine VAny.movesI (is := [24, 25]) (by kernel_rfl) (by simp) rfl (allC ?_ (all1 ?_))
                ·refine VMv.load rfl rfl rfl (VLoad.boxA rfl rfl rfl (by rfl) (leR (by rfl)) (by decide)) ?_
                 refine VAny.movesI (is := [25]) (by kernel_rfl) (by simp) rfl (all1 ?_)
                 ·refine VMv.load rfl rfl rfl (VLoad.boxA rfl rfl rfl (by rfl) (leR (by rfl)) (by decide)) ?_
                  refine VAny.movesI (is := [26]) (by kernel_rfl) (by simp) rfl (all1 ?_)
                  ·refine VMv.pure rfl rfl Try.func25 rfl rfl rfl rfl rfl rfl rfl rfl (kgram_v g hg) ?_
                   refine VAny.pureI (i := 27) rfl rfl (by kernel_rfl) rfl (VPure.pick_t rfl rfl rfl) ?_
                   refine VAny.pureI (i := 28) rfl rfl (by kernel_rfl) rfl (VPure.move rfl rfl) ?_
                   refine VAny.pureI (i := 29) rfl rfl (by kernel_rfl) rfl (VPure.move rfl rfl) ?_
                   refine VAny.pureI (i := 30) rfl rfl (by kernel_rfl) rfl (VPure.move rfl rfl) ?_
                   refine VAny.movesI (is := [31]) (by kernel_rfl) (by simp) rfl (all1 ?_)
                   ·refine VMv.pure rfl rfl Try.func17 rfl rfl rfl rfl rfl rfl rfl rfl (spots_t w (by omega)) ?_
                    refine VAny.pureI (i := 32) rfl rfl (by kernel_rfl) rfl (VPure.pick_t rfl rfl rfl) ?_
                    refine VAny.pureI (i := 33) rfl rfl (by kernel_rfl) rfl (VPure.move rfl rfl) ?_
                    refine VAny.movesI (is := [34]) (by kernel_rfl) (by simp) rfl (all1 ?_)
                    ·refine VMv.pure rfl rfl Try.func12 rfl rfl rfl rfl rfl rfl rfl rfl (wakes_v) ?_
                     refine VAny.pureI (i := 35) rfl rfl (by kernel_rfl) rfl (VPure.pick_t rfl rfl rfl) ?_
                     refine VAny.pureI (i := 36) rfl rfl (by kernel_rfl) rfl (VPure.assign rfl rfl) ?_
                     refine VAny.done ?_
                     (refine Less.mk (l := []) hcx ?ss ?hh rfl (by decide) rfl rfl; (case ss => repeat (first | exact SubS.nil | refine SubS.cons rfl rfl ?_ | refine SubS.cons (ciI (by omega)) rfl ?_ | refine SubS.cons (ciB (by assumption)) rfl ?_)); (case hh => repeat (first | exact SubH.nil | refine SubH.cons rfl rfl rfl ?_)))
                ·refine VMv.load rfl rfl rfl (VLoad.boxA rfl rfl rfl (by rfl) (leR (by rfl)) (by decide)) ?_
                 refine VAny.movesI (is := [24]) (by kernel_rfl) (by simp) rfl (all1 ?_)
                 ·refine VMv.load rfl rfl rfl (VLoad.boxA rfl rfl rfl (by rfl) (leR (by rfl)) (by decide)) ?_
                  refine VAny.movesI (is := [26]) (by kernel_rfl) (by simp) rfl (all1 ?_)
                  ·refine VMv.pure rfl rfl Try.func25 rfl rfl rfl rfl rfl rfl rfl rfl (kgram_v g hg) ?_
                   refine VAny.pureI (i := 27) rfl rfl (by kernel_rfl) rfl (VPure.pick_t rfl rfl rfl) ?_
                   refine VAny.pureI (i := 28) rfl rfl (by kernel_rfl) rfl (VPure.move rfl rfl) ?_
                   refine VAny.pureI (i := 29) rfl rfl (by kernel_rfl) rfl (VPure.move rfl rfl) ?_
                   refine VAny.pureI (i := 30) rfl rfl (by kernel_rfl) rfl (VPure.move rfl rfl) ?_
                   refine VAny.movesI (is := [31]) (by kernel_rfl) (by simp) rfl (all1 ?_)
                   ·refine VMv.pure rfl rfl Try.func17 rfl rfl rfl rfl rfl rfl rfl rfl (spots_t w (by omega)) ?_
                    refine VAny.pureI (i := 32) rfl rfl (by kernel_rfl) rfl (VPure.pick_t rfl rfl rfl) ?_
                    refine VAny.pureI (i := 33) rfl rfl (by kernel_rfl) rfl (VPure.move rfl rfl) ?_
                    refine VAny.movesI (is := [34]) (by kernel_rfl) (by simp) rfl (all1 ?_)
                    ·refine VMv.pure rfl rfl Try.func12 rfl rfl rfl rfl rfl rfl rfl rfl (wakes_v) ?_
                     refine VAny.pureI (i := 35) rfl rfl (by kernel_rfl) rfl (VPure.pick_t rfl rfl rfl) ?_
                     refine VAny.pureI (i := 36) rfl rfl (by kernel_rfl) rfl (VPure.assign rfl rfl) ?_
                     refine VAny.done ?_
                     (refine Less.mk (l := []) hcx ?ss ?hh rfl (by decide) rfl rfl; (case ss => repeat (first | exact SubS.nil | refine SubS.cons rfl rfl ?_ | refine SubS.cons (ciI (by omega)) rfl ?_ | refine SubS.cons (ciB (by assumption)) rfl ?_)); (case hh => repeat (first | exact SubH.nil | refine SubH.cons rfl rfl rfl ?_)))
            ·refine VMv.load rfl rfl rfl (VLoad.boxA rfl rfl rfl (by rfl) (leR (by rfl)) (by decide)) ?_
             refine VAny.movesI (is := [17]) (by kernel_rfl) (by simp) rfl (all1 ?_)
             ·refine VMv.oo rfl rfl rfl rfl (VOp.gives rfl Try.func23 rfl rfl rfl rfl rfl rfl (inner_v g w hg (by omega)) rfl) ?_
              refine VAny.movesI (is := [20]) (by kernel_rfl) (by simp) rfl (all1 ?_)
              ·refine VMv.oo rfl rfl rfl rfl (VOp.gives rfl Try.func24 rfl rfl rfl rfl rfl rfl (rinner_v g w hg (by omega)) rfl) ?_
               refine VAny.movesI (is := [21]) (by kernel_rfl) (by simp) rfl (all1 ?_)
               ·refine VMv.pure rfl rfl Try.func17 rfl rfl rfl rfl rfl rfl rfl rfl (spots_t (innerS g w) hI) ?_
                refine VAny.pureI (i := 22) rfl rfl (by kernel_rfl) rfl (VPure.pick_t rfl rfl rfl) ?_
                refine VAny.pureI (i := 23) rfl rfl (by kernel_rfl) rfl (VPure.move rfl rfl) ?_
                refine VAny.movesI (is := [24, 25]) (by kernel_rfl) (by simp) rfl (allC ?_ (all1 ?_))
                ·refine VMv.load rfl rfl rfl (VLoad.boxA rfl rfl rfl (by rfl) (leR (by rfl)) (by decide)) ?_
                 refine VAny.movesI (is := [25]) (by kernel_rfl) (by simp) rfl (all1 ?_)
                 ·refine VMv.load rfl rfl rfl (VLoad.boxA rfl rfl rfl (by rfl) (leR (by rfl)) (by decide)) ?_
                  refine VAny.movesI (is := [26]) (by kernel_rfl) (by simp) rfl (all1 ?_)
                  ·refine VMv.pure rfl rfl Try.func25 rfl rfl rfl rfl rfl rfl rfl rfl (kgram_v g hg) ?_
                   refine VAny.pureI (i := 27) rfl rfl (by kernel_rfl) rfl (VPure.pick_t rfl rfl rfl) ?_
                   refine VAny.pureI (i := 28) rfl rfl (by kernel_rfl) rfl (VPure.move rfl rfl) ?_
                   refine VAny.pureI (i := 29) rfl rfl (by kernel_rfl) rfl (VPure.move rfl rfl) ?_
                   refine VAny.pureI (i := 30) rfl rfl (by kernel_rfl) rfl (VPure.move rfl rfl) ?_
                   refine VAny.movesI (is := [31]) (by kernel_rfl) (by simp) rfl (all1 ?_)
                   ·refine VMv.pure rfl rfl Try.func17 rfl rfl rfl rfl rfl rfl rfl rfl (spots_t w (by omega)) ?_
                    refine VAny.pureI (i := 32) rfl rfl (by kernel_rfl) rfl (VPure.pick_t rfl rfl rfl) ?_
                    refine VAny.pureI (i := 33) rfl rfl (by kernel_rfl) rfl (VPure.move rfl rfl) ?_
                    refine VAny.movesI (is := [34]) (by kernel_rfl) (by simp) rfl (all1 ?_)
                    ·refine VMv.pure rfl rfl Try.func12 rfl rfl rfl rfl rfl rfl rfl rfl (wakes_v) ?_
                     refine VAny.pureI (i := 35) rfl rfl (by kernel_rfl) rfl (VPure.pick_t rfl rfl rfl) ?_
                     refine VAny.pureI (i := 36) rfl rfl (by kernel_rfl) rfl (VPure.assign rfl rfl) ?_
                     refine VAny.done ?_
                     (refine Less.mk (l := []) hcx ?ss ?hh rfl (by decide) rfl rfl; (case ss => repeat (first | exact SubS.nil | refine SubS.cons rfl rfl ?_ | refine SubS.cons (ciI (by omega)) rfl ?_ | refine SubS.cons (ciB (by assumption)) rfl ?_)); (case hh => repeat (first | exact SubH.nil | refine SubH.cons rfl rfl rfl ?_)))
                ·refine VMv.load rfl rfl rfl (VLoad.boxA rfl rfl rfl (by rfl) (leR (by rfl)) (by decide)) ?_
                 refine VAny.movesI (is := [24]) (by kernel_rfl) (by simp) rfl (all1 ?_)
                 ·refine VMv.load rfl rfl rfl (VLoad.boxA rfl rfl rfl (by rfl) (leR (by rfl)) (by decide)) ?_
                  refine VAny.movesI (is := [26]) (by kernel_rfl) (by simp) rfl (all1 ?_)
                  ·refine VMv.pure rfl rfl Try.func25 rfl rfl rfl rfl rfl rfl rfl rfl (kgram_v g hg) ?_
                   refine VAny.pureI (i := 27) rfl rfl (by kernel_rfl) rfl (VPure.pick_t rfl rfl rfl) ?_
                   refine VAny.pureI (i := 28) rfl rfl (by kernel_rfl) rfl (VPure.move rfl rfl) ?_
                   refine VAny.pureI (i := 29) rfl rfl (by kernel_rfl) rfl (VPure.move rfl rfl) ?_
                   refine VAny.pureI (i := 30) rfl rfl (by kernel_rfl) rfl (VPure.move rfl rfl) ?_
                   refine VAny.movesI (is := [31]) (by kernel_rfl) (by simp) rfl (all1 ?_)
                   ·refine VMv.pure rfl rfl Try.func17 rfl rfl rfl rfl rfl rfl rfl rfl (spots_t w (by omega)) ?_
                    refine VAny.pureI (i := 32) rfl rfl (by kernel_rfl) rfl (VPure.pick_t rfl rfl rfl) ?_
                    refine VAny.pureI (i := 33) rfl rfl (by kernel_rfl) rfl (VPure.move rfl rfl) ?_
                    refine VAny.movesI (is := [34]) (by kernel_rfl) (by simp) rfl (all1 ?_)
                    ·refine VMv.pure rfl rfl Try.func12 rfl rfl rfl rfl rfl rfl rfl rfl (wakes_v) ?_
                     refine VAny.pureI (i := 35) rfl rfl (by kernel_rfl) rfl (VPure.pick_t rfl rfl rfl) ?_
                     refine VAny.pureI (i := 36) rfl rfl (by kernel_rfl) rfl (VPure.assign rfl rfl) ?_
                     refine VAny.done ?_
                     (refine Less.mk (l := []) hcx ?ss ?hh rfl (by decide) rfl rfl; (case ss => repeat (first | exact SubS.nil | refine SubS.cons rfl rfl ?_ | refine SubS.cons (ciI (by omega)) rfl ?_ | refine SubS.cons (ciB (by assumption)) rfl ?_)); (case hh => repeat (first | exact SubH.nil | refine SubH.cons rfl rfl rfl ?_)))
           ·refine VMv.load rfl rfl rfl (VLoad.boxA rfl rfl rfl (by rfl) (leR (by rfl)) (by decide)) ?_
            refine VAny.movesI (is := [15]) (by kernel_rfl) (by simp) rfl (all1 ?_)
            ·refine VMv.load rfl rfl rfl (VLoad.boxA rfl rfl rfl (by rfl) (leR (by rfl)) (by decide)) ?_
             refine VAny.movesI (is := [17]) (by kernel_rfl) (by simp) rfl (all1 ?_)
             ·refine VMv.oo rfl rfl rfl rfl (VOp.gives rfl Try.func23 rfl rfl rfl rfl rfl rfl (inner_v g w hg (by omega)) rfl) ?_
              refine VAny.movesI (is := [20]) (by kernel_rfl) (by simp) rfl (all1 ?_)
              ·refine VMv.oo rfl rfl rfl rfl (VOp.gives rfl Try.func24 rfl rfl rfl rfl rfl rfl (rinner_v g w hg (by omega)) rfl) ?_
               refine VAny.movesI (is := [21]) (by kernel_rfl) (by simp) rfl (all1 ?_)
               ·refine VMv.pure rfl rfl Try.func17 rfl rfl rfl rfl rfl rfl rfl rfl (spots_t (innerS g w) hI) ?_
                refine VAny.pureI (i := 22) rfl rfl (by kernel_rfl) rfl (VPure.pick_t rfl rfl rfl) ?_
                refine VAny.pureI (i := 23) rfl rfl (by kernel_rfl) rfl (VPure.move rfl rfl) ?_
                refine VAny.movesI (is := [24, 25]) (by kernel_rfl) (by simp) rfl (allC ?_ (all1 ?_))
                ·refine VMv.load rfl rfl rfl (VLoad.boxA rfl rfl rfl (by rfl) (leR (by rfl)) (by decide)) ?_
                 refine VAny.movesI (is := [25]) (by kernel_rfl) (by simp) rfl (all1 ?_)
                 ·refine VMv.load rfl rfl rfl (VLoad.boxA rfl rfl rfl (by rfl) (leR (by rfl)) (by decide)) ?_
                  refine VAny.movesI (is := [26]) (by kernel_rfl) (by simp) rfl (all1 ?_)
                  ·refine VMv.pure rfl rfl Try.func25 rfl rfl rfl rfl rfl rfl rfl rfl (kgram_v g hg) ?_
                   refine VAny.pureI (i := 27) rfl rfl (by kernel_rfl) rfl (VPure.pick_t rfl rfl rfl) ?_
                   refine VAny.pureI (i := 28) rfl rfl (by kernel_rfl) rfl (VPure.move rfl rfl) ?_
                   refine VAny.pureI (i := 29) rfl rfl (by kernel_rfl) rfl (VPure.move rfl rfl) ?_
                   refine VAny.pureI (i := 30) rfl rfl (by kernel_rfl) rfl (VPure.move rfl rfl) ?_
                   refine VAny.movesI (is := [31]) (by kernel_rfl) (by simp) rfl (all1 ?_)
                   ·refine VMv.pure rfl rfl Try.func17 rfl rfl rfl rfl rfl rfl rfl rfl (spots_t w (by omega)) ?_
                    refine VAny.pureI (i := 32) rfl rfl (by kernel_rfl) rfl (VPure.pick_t rfl rfl rfl) ?_
                    refine VAny.pureI (i := 33) rfl rfl (by kernel_rfl) rfl (VPure.move rfl rfl) ?_
                    refine VAny.movesI (is := [34]) (by kernel_rfl) (by simp) rfl (all1 ?_)
                    ·refine VMv.pure rfl rfl Try.func12 rfl rfl rfl rfl rfl rfl rfl rfl (wakes_v) ?_
                     refine VAny.pureI (i := 35) rfl rfl (by kernel_rfl) rfl (VPure.pick_t rfl rfl rfl) ?_
                     refine VAny.pureI (i := 36) rfl rfl (by kernel_rfl) rfl (VPure.assign rfl rfl) ?_
                     refine VAny.done ?_
                     (refine Less.mk (l := []) hcx ?ss ?hh rfl (by decide) rfl rfl; (case ss => repeat (first | exact SubS.nil | refine SubS.cons rfl rfl ?_ | refine SubS.cons (ciI (by omega)) rfl ?_ | refine SubS.cons (ciB (by assumption)) rfl ?_)); (case hh => repeat (first | exact SubH.nil | refine SubH.cons rfl rfl rfl ?_)))
                ·refine VMv.load rfl rfl rfl (VLoad.boxA rfl rfl rfl (by rfl) (leR (by rfl)) (by decide)) ?_
                 refine VAny.movesI (is := [24]) (by kernel_rfl) (by simp) rfl (all1 ?_)
                 ·refine VMv.load rfl rfl rfl (VLoad.boxA rfl rfl rfl (by rfl) (leR (by rfl)) (by decide)) ?_
                  refine VAny.movesI (is := [26]) (by kernel_rfl) (by simp) rfl (all1 ?_)
                  ·refine VMv.pure rfl rfl Try.func25 rfl rfl rfl rfl rfl rfl rfl rfl (kgram_v g hg) ?_
                   refine VAny.pureI (i := 27) rfl rfl (by kernel_rfl) rfl (VPure.pick_t rfl rfl rfl) ?_
                   refine VAny.pureI (i := 28) rfl rfl (by kernel_rfl) rfl (VPure.move rfl rfl) ?_
                   refine VAny.pureI (i := 29) rfl rfl (by kernel_rfl) rfl (VPure.move rfl rfl) ?_
                   refine VAny.pureI (i := 30) rfl rfl (by kernel_rfl) rfl (VPure.move rfl rfl) ?_
                   refine VAny.movesI (is := [31]) (by kernel_rfl) (by simp) rfl (all1 ?_)
                   ·refine VMv.pure rfl rfl Try.func17 rfl rfl rfl rfl rfl rfl rfl rfl (spots_t w (by omega)) ?_
                    refine VAny.pureI (i := 32) rfl rfl (by kernel_rfl) rfl (VPure.pick_t rfl rfl rfl) ?_
                    refine VAny.pureI (i := 33) rfl rfl (by kernel_rfl) rfl (VPure.move rfl rfl) ?_
                    refine VAny.movesI (is := [34]) (by kernel_rfl) (by simp) rfl (all1 ?_)
                    ·refine VMv.pure rfl rfl Try.func12 rfl rfl rfl rfl rfl rfl rfl rfl (wakes_v) ?_
                     refine VAny.pureI (i := 35) rfl rfl (by kernel_rfl) rfl (VPure.pick_t rfl rfl rfl) ?_
                     refine VAny.pureI (i := 36) rfl rfl (by kernel_rfl) rfl (VPure.assign rfl rfl) ?_
                     refine VAny.done ?_
                     (refine Less.mk (l := []) hcx ?ss ?hh rfl (by decide) rfl rfl; (case ss => repeat (first | exact SubS.nil | refine SubS.cons rfl rfl ?_ | refine SubS.cons (ciI (by omega)) rfl ?_ | refine SubS.cons (ciB (by assumption)) rfl ?_)); (case hh => repeat (first | exact SubH.nil | refine SubH.cons rfl rfl rfl ?_)))
       ·refine VMv.load rfl rfl rfl (VLoad.boxA rfl rfl rfl (by rfl) (leR (by rfl)) (by decide)) ?_
        refine VAny.movesI (is := [8]) (by kernel_rfl) (by simp) rfl (all1 ?_)
        ·refine VMv.oo rfl rfl rfl rfl (VOp.gives rfl Try.func21 rfl rfl rfl rfl rfl rfl (comps_v g w hg (by omega)) rfl) ?_
         refine VAny.movesI (is := [11]) (by kernel_rfl) (by simp) rfl (all1 ?_)
         ·refine VMv.oo rfl rfl rfl rfl (VOp.gives rfl Try.func22 rfl rfl rfl rfl rfl rfl (rcomps_v g w hg (by omega)) rfl) ?_
          refine VAny.movesI (is := [12]) (by kernel_rfl) (by simp) rfl (all1 ?_)
          ·refine VMv.pure rfl rfl Try.func20 rfl rfl rfl rfl rfl rfl rfl rfl (intsN_t (comps g w) hC) ?_
           refine VAny.pureI (i := 13) rfl rfl (by kernel_rfl) rfl (VPure.pick_t rfl rfl rfl) ?_
           refine VAny.pureI (i := 14) rfl rfl (by kernel_rfl) rfl (VPure.move rfl rfl) ?_
           refine VAny.pureI (i := 16) rfl rfl (by kernel_rfl) rfl (VPure.move rfl rfl) ?_
           refine VAny.pureI (i := 19) rfl rfl (by kernel_rfl) rfl (VPure.move rfl rfl) ?_
           refine VAny.movesI (is := [15, 18]) (by kernel_rfl) (by simp) rfl (allC ?_ (all1 ?_))
           ·refine VMv.load rfl rfl rfl (VLoad.boxA rfl rfl rfl (by rfl) (leR (by rfl)) (by decide)) ?_
            refine VAny.movesI (is := [17, 18]) (by kernel_rfl) (by simp) rfl (allC ?_ (all1 ?_))
            ·refine VMv.oo rfl rfl rfl rfl (VOp.gives rfl Try.func23 rfl rfl rfl rfl rfl rfl (inner_v g w hg (by omega)) rfl) ?_
             refine VAny.movesI (is := [18]) (by kernel_rfl) (by simp) rfl (all1 ?_)
             ·refine VMv.load rfl rfl rfl (VLoad.boxA rfl rfl rfl (by rfl) (leR (by rfl)) (by decide)) ?_
              refine VAny.movesI (is := [20]) (by kernel_rfl) (by simp) rfl (all1 ?_)
              ·refine VMv.oo rfl rfl rfl rfl (VOp.gives rfl Try.func24 rfl rfl rfl rfl rfl rfl (rinner_v g w hg (by omega)) rfl) ?_
               refine VAny.movesI (is := [21]) (by kernel_rfl) (by simp) rfl (all1 ?_)
               ·refine VMv.pure rfl rfl Try.func17 rfl rfl rfl rfl rfl rfl rfl rfl (spots_t (innerS g w) hI) ?_
                refine VAny.pureI (i := 22) rfl rfl (by kernel_rfl) rfl (VPure.pick_t rfl rfl rfl) ?_
                refine VAny.pureI (i := 23) rfl rfl (by kernel_rfl) rfl (VPure.move rfl rfl) ?_
                refine VAny.movesI (is := [24, 25]) (by kernel_rfl) (by simp) rfl (allC ?_ (all1 ?_))
                ·refine VMv.load rfl rfl rfl (VLoad.boxA rfl rfl rfl (by rfl) (leR (by rfl)) (by decide)) ?_
                 refine VAny.movesI (is := [25]) (by kernel_rfl) (by simp) rfl (all1 ?_)
                 ·refine VMv.load rfl rfl rfl (VLoad.boxA rfl rfl rfl (by rfl) (leR (by rfl)) (by decide)) ?_
                  refine VAny.movesI (is := [26]) (by kernel_rfl) (by simp) rfl (all1 ?_)
                  ·refine VMv.pure rfl rfl Try.func25 rfl rfl rfl rfl rfl rfl rfl rfl (kgram_v g hg) ?_
                   refine VAny.pureI (i := 27) rfl rfl (by kernel_rfl) rfl (VPure.pick_t rfl rfl rfl) ?_
                   refine VAny.pureI (i := 28) rfl rfl (by kernel_rfl) rfl (VPure.move rfl rfl) ?_
                   refine VAny.pureI (i := 29) rfl rfl (by kernel_rfl) rfl (VPure.move rfl rfl) ?_
                   refine VAny.pureI (i := 30) rfl rfl (by kernel_rfl) rfl (VPure.move rfl rfl) ?_
                   refine VAny.movesI (is := [31]) (by kernel_rfl) (by simp) rfl (all1 ?_)
                   ·refine VMv.pure rfl rfl Try.func17 rfl rfl rfl rfl rfl rfl rfl rfl (spots_t w (by omega)) ?_
                    refine VAny.pureI (i := 32) rfl rfl (by kernel_rfl) rfl (VPure.pick_t rfl rfl rfl) ?_
                    refine VAny.pureI (i := 33) rfl rfl (by kernel_rfl) rfl (VPure.move rfl rfl) ?_
                    refine VAny.movesI (is := [34]) (by kernel_rfl) (by simp) rfl (all1 ?_)
                    ·refine VMv.pure rfl rfl Try.func12 rfl rfl rfl rfl rfl rfl rfl rfl (wakes_v) ?_
                     refine VAny.pureI (i := 35) rfl rfl (by kernel_rfl) rfl (VPure.pick_t rfl rfl rfl) ?_
                     refine VAny.pureI (i := 36) rfl rfl (by kernel_rfl) rfl (VPure.assign rfl rfl) ?_
                     refine VAny.done ?_
                     (refine Less.mk (l := []) hcx ?ss ?hh rfl (by decide) rfl rfl; (case ss => repeat (first | exact SubS.nil | refine SubS.cons rfl rfl ?_ | refine SubS.cons (ciI (by omega)) rfl ?_ | refine SubS.cons (ciB (by assumption)) rfl ?_)); (case hh => repeat (first | exact SubH.nil | refine SubH.cons rfl rfl rfl ?_)))
                ·refine VMv.load rfl rfl rfl (VLoad.boxA rfl rfl rfl (by rfl) (leR (by rfl)) (by decide)) ?_
                 refine VAny.movesI (is := [24]) (by kernel_rfl) (by simp) rfl (all1 ?_)
                 ·refine VMv.load rfl rfl rfl (VLoad.boxA rfl rfl rfl (by rfl) (leR (by rfl)) (by decide)) ?_
                  refine VAny.movesI (is := [26]) (by kernel_rfl) (by simp) rfl (all1 ?_)
                  ·refine VMv.pure rfl rfl Try.func25 rfl rfl rfl rfl rfl rfl rfl rfl (kgram_v g hg) ?_
                   refine VAny.pureI (i := 27) rfl rfl (by kernel_rfl) rfl (VPure.pick_t rfl rfl rfl) ?_
                   refine VAny.pureI (i := 28) rfl rfl (by kernel_rfl) rfl (VPure.move rfl rfl) ?_
                   refine VAny.pureI (i := 29) rfl rfl (by kernel_rfl) rfl (VPure.move rfl rfl) ?_
                   refine VAny.pureI (i := 30) rfl rfl (by kernel_rfl) rfl (VPure.move rfl rfl) ?_
                   refine VAny.movesI (is := [31]) (by kernel_rfl) (by simp) rfl (all1 ?_)
                   ·refine VMv.pure rfl rfl Try.func17 rfl rfl rfl rfl rfl rfl rfl rfl (spots_t w (by omega)) ?_
                    refine VAny.pureI (i := 32) rfl rfl (by kernel_rfl) rfl (VPure.pick_t rfl rfl rfl) ?_
                    refine VAny.pureI (i := 33) rfl rfl (by kernel_rfl) rfl (VPure.move rfl rfl) ?_
                    refine VAny.movesI (is := [34]) (by kernel_rfl) (by simp) rfl (all1 ?_)
                    ·refine VMv.pure rfl rfl Try.func12 rfl rfl rfl rfl rfl rfl rfl rfl (wakes_v) ?_
                     refine VAny.pureI (i := 35) rfl rfl (by kernel_rfl) rfl (VPure.pick_t rfl rfl rfl) ?_
                     refine VAny.pureI (i := 36) rfl rfl (by kernel_rfl) rfl (VPure.assign rfl rfl) ?_
                     refine VAny.done ?_
                     (refine Less.mk (l := []) hcx ?ss ?hh rfl (by decide) rfl rfl; (case ss => repeat (first | exact SubS.nil | refine SubS.cons rfl rfl ?_ | refine SubS.cons (ciI (by omega)) rfl ?_ | refine SubS.cons (ciB (by assumption)) rfl ?_)); (case hh => repeat (first | exact SubH.nil | refine SubH.cons rfl rfl rfl ?_)))
            ·refine VMv.load rfl rfl rfl (VLoad.boxA rfl rfl rfl (by rfl) (leR (by rfl)) (by decide)) ?_
             refine VAny.movesI (is := [17]) (by kernel_rfl) (by simp) rfl (all1 ?_)
             ·refine VMv.oo rfl rfl rfl rfl (VOp.gives rfl Try.func23 rfl rfl rfl rfl rfl rfl (inner_v g w hg (by omega)) rfl) ?_
              refine VAny.movesI (is := [20]) (by kernel_rfl) (by simp) rfl (all1 ?_)
              ·refine VMv.oo rfl rfl rfl rfl (VOp.gives rfl Try.func24 rfl rfl rfl rfl rfl rfl (rinner_v g w hg (by omega)) rfl) ?_
               refine VAny.movesI (is := [21]) (by kernel_rfl) (by simp) rfl (all1 ?_)
               ·refine VMv.pure rfl rfl Try.func17 rfl rfl rfl rfl rfl rfl rfl rfl (spots_t (innerS g w) hI) ?_
                refine VAny.pureI (i := 22) rfl rfl (by kernel_rfl) rfl (VPure.pick_t rfl rfl rfl) ?_
                refine VAny.pureI (i := 23) rfl rfl (by kernel_rfl) rfl (VPure.move rfl rfl) ?_
                refine VAny.movesI (is := [24, 25]) (by kernel_rfl) (by simp) rfl (allC ?_ (all1 ?_))
                ·refine VMv.load rfl rfl rfl (VLoad.boxA rfl rfl rfl (by rfl) (leR (by rfl)) (by decide)) ?_
                 refine VAny.movesI (is := [25]) (by kernel_rfl) (by simp) rfl (all1 ?_)
                 ·refine VMv.load rfl rfl rfl (VLoad.boxA rfl rfl rfl (by rfl) (leR (by rfl)) (by decide)) ?_
                  refine VAny.movesI (is := [26]) (by kernel_rfl) (by simp) rfl (all1 ?_)
                  ·refine VMv.pure rfl rfl Try.func25 rfl rfl rfl rfl rfl rfl rfl rfl (kgram_v g hg) ?_
                   refine VAny.pureI (i := 27) rfl rfl (by kernel_rfl) rfl (VPure.pick_t rfl rfl rfl) ?_
                   refine VAny.pureI (i := 28) rfl rfl (by kernel_rfl) rfl (VPure.move rfl rfl) ?_
                   refine VAny.pureI (i := 29) rfl rfl (by kernel_rfl) rfl (VPure.move rfl rfl) ?_
                   refine VAny.pureI (i := 30) rfl rfl (by kernel_rfl) rfl (VPure.move rfl rfl) ?_
                   refine VAny.movesI (is := [31]) (by kernel_rfl) (by simp) rfl (all1 ?_)
                   ·refine VMv.pure rfl rfl Try.func17 rfl rfl rfl rfl rfl rfl rfl rfl (spots_t w (by omega)) ?_
                    refine VAny.pureI (i := 32) rfl rfl (by kernel_rfl) rfl (VPure.pick_t rfl rfl rfl) ?_
                    refine VAny.pureI (i := 33) rfl rfl (by kernel_rfl) rfl (VPure.move rfl rfl) ?_
                    refine VAny.movesI (is := [34]) (by kernel_rfl) (by simp) rfl (all1 ?_)
                    ·refine VMv.pure rfl rfl Try.func12 rfl rfl rfl rfl rfl rfl rfl rfl (wakes_v) ?_
                     refine VAny.pureI (i := 35) rfl rfl (by kernel_rfl) rfl (VPure.pick_t rfl rfl rfl) ?_
                     refine VAny.pureI (i := 36) rfl rfl (by kernel_rfl) rfl (VPure.assign rfl rfl) ?_
                     refine VAny.done ?_
                     (refine Less.mk (l := []) hcx ?ss ?hh rfl (by decide) rfl rfl; (case ss => repeat (first | exact SubS.nil | refine SubS.cons rfl rfl ?_ | refine SubS.cons (ciI (by omega)) rfl ?_ | refine SubS.cons (ciB (by assumption)) rfl ?_)); (case hh => repeat (first | exact SubH.nil | refine SubH.cons rfl rfl rfl ?_)))
                ·refine VMv.load rfl rfl rfl (VLoad.boxA rfl rfl rfl (by rfl) (leR (by rfl)) (by decide)) ?_
                 refine VAny.movesI (is := [24]) (by kernel_rfl) (by simp) rfl (all1 ?_)
                 ·refine VMv.load rfl rfl rfl (VLoad.boxA rfl rfl rfl (by rfl) (leR (by rfl)) (by decide)) ?_
                  refine VAny.movesI (is := [26]) (by kernel_rfl) (by simp) rfl (all1 ?_)
                  ·refine VMv.pure rfl rfl Try.func25 rfl rfl rfl rfl rfl rfl rfl rfl (kgram_v g hg) ?_
                   refine VAny.pureI (i := 27) rfl rfl (by kernel_rfl) rfl (VPure.pick_t rfl rfl rfl) ?_
                   refine VAny.pureI (i := 28) rfl rfl (by kernel_rfl) rfl (VPure.move rfl rfl) ?_
                   refine VAny.pureI (i := 29) rfl rfl (by kernel_rfl) rfl (VPure.move rfl rfl) ?_
                   refine VAny.pureI (i := 30) rfl rfl (by kernel_rfl) rfl (VPure.move rfl rfl) ?_
                   refine VAny.movesI (is := [31]) (by kernel_rfl) (by simp) rfl (all1 ?_)
                   ·refine VMv.pure rfl rfl Try.func17 rfl rfl rfl rfl rfl rfl rfl rfl (spots_t w (by omega)) ?_
                    refine VAny.pureI (i := 32) rfl rfl (by kernel_rfl) rfl (VPure.pick_t rfl rfl rfl) ?_
                    refine VAny.pureI (i := 33) rfl rfl (by kernel_rfl) rfl (VPure.move rfl rfl) ?_
                    refine VAny.movesI (is := [34]) (by kernel_rfl) (by simp) rfl (all1 ?_)
                    ·refine VMv.pure rfl rfl Try.func12 rfl rfl rfl rfl rfl rfl rfl rfl (wakes_v) ?_
                     refine VAny.pureI (i := 35) rfl rfl (by kernel_rfl) rfl (VPure.pick_t rfl rfl rfl) ?_
                     refine VAny.pureI (i := 36) rfl rfl (by kernel_rfl) rfl (VPure.assign rfl rfl) ?_
                     refine VAny.done ?_
                     (refine Less.mk (l := []) hcx ?ss ?hh rfl (by decide) rfl rfl; (case ss => repeat (first | exact SubS.nil | refine SubS.cons rfl rfl ?_ | refine SubS.cons (ciI (by omega)) rfl ?_ | refine SubS.cons (ciB (by assumption)) rfl ?_)); (case hh => repeat (first | exact SubH.nil | refine SubH.cons rfl rfl rfl ?_)))
           ·refine VMv.load rfl rfl rfl (VLoad.boxA rfl rfl rfl (by rfl) (leR (by rfl)) (by decide)) ?_
            refine VAny.movesI (is := [15]) (by kernel_rfl) (by simp) rfl (all1 ?_)
            ·refine VMv.load rfl rfl rfl (VLoad.boxA rfl rfl rfl (by rfl) (leR (by rfl)) (by decide)) ?_
             refine VAny.movesI (is := [17]) (by kernel_rfl) (by simp) rfl (all1 ?_)
             ·refine VMv.oo rfl rfl rfl rfl (VOp.gives rfl Try.func23 rfl rfl rfl rfl rfl rfl (inner_v g w hg (by omega)) rfl) ?_
              refine VAny.movesI (is := [20]) (by kernel_rfl) (by simp) rfl (all1 ?_)
              ·refine VMv.oo rfl rfl rfl rfl (VOp.gives rfl Try.func24 rfl rfl rfl rfl rfl rfl (rinner_v g w hg (by omega)) rfl) ?_
               refine VAny.movesI (is := [21]) (by kernel_rfl) (by simp) rfl (all1 ?_)
               ·refine VMv.pure rfl rfl Try.func17 rfl rfl rfl rfl rfl rfl rfl rfl (spots_t (innerS g w) hI) ?_
                refine VAny.pureI (i := 22) rfl rfl (by kernel_rfl) rfl (VPure.pick_t rfl rfl rfl) ?_
                refine VAny.pureI (i := 23) rfl rfl (by kernel_rfl) rfl (VPure.move rfl rfl) ?_
                refine VAny.movesI (is := [24, 25]) (by kernel_rfl) (by simp) rfl (allC ?_ (all1 ?_))
                ·refine VMv.load rfl rfl rfl (VLoad.boxA rfl rfl rfl (by rfl) (leR (by rfl)) (by decide)) ?_
                 refine VAny.movesI (is := [25]) (by kernel_rfl) (by simp) rfl (all1 ?_)
                 ·refine VMv.load rfl rfl rfl (VLoad.boxA rfl rfl rfl (by rfl) (leR (by rfl)) (by decide)) ?_
                  refine VAny.movesI (is := [26]) (by kernel_rfl) (by simp) rfl (all1 ?_)
                  ·refine VMv.pure rfl rfl Try.func25 rfl rfl rfl rfl rfl rfl rfl rfl (kgram_v g hg) ?_
                   refine VAny.pureI (i := 27) rfl rfl (by kernel_rfl) rfl (VPure.pick_t rfl rfl rfl) ?_
                   refine VAny.pureI (i := 28) rfl rfl (by kernel_rfl) rfl (VPure.move rfl rfl) ?_
                   refine VAny.pureI (i := 29) rfl rfl (by kernel_rfl) rfl (VPure.move rfl rfl) ?_
                   refine VAny.pureI (i := 30) rfl rfl (by kernel_rfl) rfl (VPure.move rfl rfl) ?_
                   refine VAny.movesI (is := [31]) (by kernel_rfl) (by simp) rfl (all1 ?_)
                   ·refine VMv.pure rfl rfl Try.func17 rfl rfl rfl rfl rfl rfl rfl rfl (spots_t w (by omega)) ?_
                    refine VAny.pureI (i := 32) rfl rfl (by kernel_rfl) rfl (VPure.pick_t rfl rfl rfl) ?_
                    refine VAny.pureI (i := 33) rfl rfl (by kernel_rfl) rfl (VPure.move rfl rfl) ?_
                    refine VAny.movesI (is := [34]) (by kernel_rfl) (by simp) rfl (all1 ?_)
                    ·refine VMv.pure rfl rfl Try.func12 rfl rfl rfl rfl rfl rfl rfl rfl (wakes_v) ?_
                     refine VAny.pureI (i := 35) rfl rfl (by kernel_rfl) rfl (VPure.pick_t rfl rfl rfl) ?_
                     refine VAny.pureI (i := 36) rfl rfl (by kernel_rfl) rfl (VPure.assign rfl rfl) ?_
                     refine VAny.done ?_
                     (refine Less.mk (l := []) hcx ?ss ?hh rfl (by decide) rfl rfl; (case ss => repeat (first | exact SubS.nil | refine SubS.cons rfl rfl ?_ | refine SubS.cons (ciI (by omega)) rfl ?_ | refine SubS.cons (ciB (by assumption)) rfl ?_)); (case hh => repeat (first | exact SubH.nil | refine SubH.cons rfl rfl rfl ?_)))
                ·refine VMv.load rfl rfl rfl (VLoad.boxA rfl rfl rfl (by rfl) (leR (by rfl)) (by decide)) ?_
                 refine VAny.movesI (is := [24]) (by kernel_rfl) (by simp) rfl (all1 ?_)
                 ·refine VMv.load rfl rfl rfl (VLoad.boxA rfl rfl rfl (by rfl) (leR (by rfl)) (by decide)) ?_
                  refine VAny.movesI (is := [26]) (by kernel_rfl) (by simp) rfl (all1 ?_)
                  ·refine VMv.pure rfl rfl Try.func25 rfl rfl rfl rfl rfl rfl rfl rfl (kgram_v g hg) ?_
                   refine VAny.pureI (i := 27) rfl rfl (by kernel_rfl) rfl (VPure.pick_t rfl rfl rfl) ?_
                   refine VAny.pureI (i := 28) rfl rfl (by kernel_rfl) rfl (VPure.move rfl rfl) ?_
                   refine VAny.pureI (i := 29) rfl rfl (by kernel_rfl) rfl (VPure.move rfl rfl) ?_
                   refine VAny.pureI (i := 30) rfl rfl (by kernel_rfl) rfl (VPure.move rfl rfl) ?_
                   refine VAny.movesI (is := [31]) (by kernel_rfl) (by simp) rfl (all1 ?_)
                   ·refine VMv.pure rfl rfl Try.func17 rfl rfl rfl rfl rfl rfl rfl rfl (spots_t w (by omega)) ?_
                    refine VAny.pureI (i := 32) rfl rfl (by kernel_rfl) rfl (VPure.pick_t rfl rfl rfl) ?_
                    refine VAny.pureI (i := 33) rfl rfl (by kernel_rfl) rfl (VPure.move rfl rfl) ?_
                    refine VAny.movesI (is := [34]) (by kernel_rfl) (by simp) rfl (all1 ?_)
                    ·refine VMv.pure rfl rfl Try.func12 rfl rfl rfl rfl rfl rfl rfl rfl (wakes_v) ?_
                     refine VAny.pureI (i := 35) rfl rfl (by kernel_rfl) rfl (VPure.pick_t rfl rfl rfl) ?_
                     refine VAny.pureI (i := 36) rfl rfl (by kernel_rfl) rfl (VPure.assign rfl rfl) ?_
                     refine VAny.done ?_
                     (refine Less.mk (l := []) hcx ?ss ?hh rfl (by decide) rfl rfl; (case ss => repeat (first | exact SubS.nil | refine SubS.cons rfl rfl ?_ | refine SubS.cons (ciI (by omega)) rfl ?_ | refine SubS.cons (ciB (by assumption)) rfl ?_)); (case hh => repeat (first | exact SubH.nil | refine SubH.cons rfl rfl rfl ?_)))
      ·refine VMv.load rfl rfl rfl (VLoad.boxA rfl rfl rfl (by rfl) (leR (by rfl)) (by decide)) ?_
       refine VAny.movesI (is := [6]) (by kernel_rfl) (by simp) rfl (all1 ?_)
       ·refine VMv.load rfl rfl rfl (VLoad.boxA rfl rfl rfl (by rfl) (leR (by rfl)) (by decide)) ?_
        refine VAny.movesI (is := [8]) (by kernel_rfl) (by simp) rfl (all1 ?_)
        ·refine VMv.oo rfl rfl rfl rfl (VOp.gives rfl Try.func21 rfl rfl rfl rfl rfl rfl (comps_v g w hg (by omega)) rfl) ?_
         refine VAny.movesI (is := [11]) (by kernel_rfl) (by simp) rfl (all1 ?_)
         ·refine VMv.oo rfl rfl rfl rfl (VOp.gives rfl Try.func22 rfl rfl rfl rfl rfl rfl (rcomps_v g w hg (by omega)) rfl) ?_
          refine VAny.movesI (is := [12]) (by kernel_rfl) (by simp) rfl (all1 ?_)
          ·refine VMv.pure rfl rfl Try.func20 rfl rfl rfl rfl rfl rfl rfl rfl (intsN_t (comps g w) hC) ?_
           refine VAny.pureI (i := 13) rfl rfl (by kernel_rfl) rfl (VPure.pick_t rfl rfl rfl) ?_
           refine VAny.pureI (i := 14) rfl rfl (by kernel_rfl) rfl (VPure.move rfl rfl) ?_
           refine VAny.pureI (i := 16) rfl rfl (by kernel_rfl) rfl (VPure.move rfl rfl) ?_
           refine VAny.pureI (i := 19) rfl rfl (by kernel_rfl) rfl (VPure.move rfl rfl) ?_
           refine VAny.movesI (is := [15, 18]) (by kernel_rfl) (by simp) rfl (allC ?_ (all1 ?_))
           ·refine VMv.load rfl rfl rfl (VLoad.boxA rfl rfl rfl (by rfl) (leR (by rfl)) (by decide)) ?_
            refine VAny.movesI (is := [17, 18]) (by kernel_rfl) (by simp) rfl (allC ?_ (all1 ?_))
            ·refine VMv.oo rfl rfl rfl rfl (VOp.gives rfl Try.func23 rfl rfl rfl rfl rfl rfl (inner_v g w hg (by omega)) rfl) ?_
             refine VAny.movesI (is := [18]) (by kernel_rfl) (by simp) rfl (all1 ?_)
             ·refine VMv.load rfl rfl rfl (VLoad.boxA rfl rfl rfl (by rfl) (leR (by rfl)) (by decide)) ?_
              refine VAny.movesI (is := [20]) (by kernel_rfl) (by simp) rfl (all1 ?_)
              ·refine VMv.oo rfl rfl rfl rfl (VOp.gives rfl Try.func24 rfl rfl rfl rfl rfl rfl (rinner_v g w hg (by omega)) rfl) ?_
               refine VAny.movesI (is := [21]) (by kernel_rfl) (by simp) rfl (all1 ?_)
               ·refine VMv.pure rfl rfl Try.func17 rfl rfl rfl rfl rfl rfl rfl rfl (spots_t (innerS g w) hI) ?_
                refine VAny.pureI (i := 22) rfl rfl (by kernel_rfl) rfl (VPure.pick_t rfl rfl rfl) ?_
                refine VAny.pureI (i := 23) rfl rfl (by kernel_rfl) rfl (VPure.move rfl rfl) ?_
                refine VAny.movesI (is := [24, 25]) (by kernel_rfl) (by simp) rfl (allC ?_ (all1 ?_))
                ·refine VMv.load rfl rfl rfl (VLoad.boxA rfl rfl rfl (by rfl) (leR (by rfl)) (by decide)) ?_
                 refine VAny.movesI (is := [25]) (by kernel_rfl) (by simp) rfl (all1 ?_)
                 ·refine VMv.load rfl rfl rfl (VLoad.boxA rfl rfl rfl (by rfl) (leR (by rfl)) (by decide)) ?_
                  refine VAny.movesI (is := [26]) (by kernel_rfl) (by simp) rfl (all1 ?_)
                  ·refine VMv.pure rfl rfl Try.func25 rfl rfl rfl rfl rfl rfl rfl rfl (kgram_v g hg) ?_
                   refine VAny.pureI (i := 27) rfl rfl (by kernel_rfl) rfl (VPure.pick_t rfl rfl rfl) ?_
                   refine VAny.pureI (i := 28) rfl rfl (by kernel_rfl) rfl (VPure.move rfl rfl) ?_
                   refine VAny.pureI (i := 29) rfl rfl (by kernel_rfl) rfl (VPure.move rfl rfl) ?_
                   refine VAny.pureI (i := 30) rfl rfl (by kernel_rfl) rfl (VPure.move rfl rfl) ?_
                   refine VAny.movesI (is := [31]) (by kernel_rfl) (by simp) rfl (all1 ?_)
                   ·refine VMv.pure rfl rfl Try.func17 rfl rfl rfl rfl rfl rfl rfl rfl (spots_t w (by omega)) ?_
                    refine VAny.pureI (i := 32) rfl rfl (by kernel_rfl) rfl (VPure.pick_t rfl rfl rfl) ?_
                    refine VAny.pureI (i := 33) rfl rfl (by kernel_rfl) rfl (VPure.move rfl rfl) ?_
                    refine VAny.movesI (is := [34]) (by kernel_rfl) (by simp) rfl (all1 ?_)
                    ·refine VMv.pure rfl rfl Try.func12 rfl rfl rfl rfl rfl rfl rfl rfl (wakes_v) ?_
                     refine VAny.pureI (i := 35) rfl rfl (by kernel_rfl) rfl (VPure.pick_t rfl rfl rfl) ?_
                     refine VAny.pureI (i := 36) rfl rfl (by kernel_rfl) rfl (VPure.assign rfl rfl) ?_
                     refine VAny.done ?_
                     (refine Less.mk (l := []) hcx ?ss ?hh rfl (by decide) rfl rfl; (case ss => repeat (first | exact SubS.nil | refine SubS.cons rfl rfl ?_ | refine SubS.cons (ciI (by omega)) rfl ?_ | refine SubS.cons (ciB (by assumption)) rfl ?_)); (case hh => repeat (first | exact SubH.nil | refine SubH.cons rfl rfl rfl ?_)))
                ·refine VMv.load rfl rfl rfl (VLoad.boxA rfl rfl rfl (by rfl) (leR (by rfl)) (by decide)) ?_
                 refine VAny.movesI (is := [24]) (by kernel_rfl) (by simp) rfl (all1 ?_)
                 ·refine VMv.load rfl rfl rfl (VLoad.boxA rfl rfl rfl (by rfl) (leR (by rfl)) (by decide)) ?_
                  refine VAny.movesI (is := [26]) (by kernel_rfl) (by simp) rfl (all1 ?_)
                  ·refine VMv.pure rfl rfl Try.func25 rfl rfl rfl rfl rfl rfl rfl rfl (kgram_v g hg) ?_
                   refine VAny.pureI (i := 27) rfl rfl (by kernel_rfl) rfl (VPure.pick_t rfl rfl rfl) ?_
                   refine VAny.pureI (i := 28) rfl rfl (by kernel_rfl) rfl (VPure.move rfl rfl) ?_
                   refine VAny.pureI (i := 29) rfl rfl (by kernel_rfl) rfl (VPure.move rfl rfl) ?_
                   refine VAny.pureI (i := 30) rfl rfl (by kernel_rfl) rfl (VPure.move rfl rfl) ?_
                   refine VAny.movesI (is := [31]) (by kernel_rfl) (by simp) rfl (all1 ?_)
                   ·refine VMv.pure rfl rfl Try.func17 rfl rfl rfl rfl rfl rfl rfl rfl (spots_t w (by omega)) ?_
                    refine VAny.pureI (i := 32) rfl rfl (by kernel_rfl) rfl (VPure.pick_t rfl rfl rfl) ?_
                    refine VAny.pureI (i := 33) rfl rfl (by kernel_rfl) rfl (VPure.move rfl rfl) ?_
                    refine VAny.movesI (is := [34]) (by kernel_rfl) (by simp) rfl (all1 ?_)
                    ·refine VMv.pure rfl rfl Try.func12 rfl rfl rfl rfl rfl rfl rfl rfl (wakes_v) ?_
                     refine VAny.pureI (i := 35) rfl rfl (by kernel_rfl) rfl (VPure.pick_t rfl rfl rfl) ?_
                     refine VAny.pureI (i := 36) rfl rfl (by kernel_rfl) rfl (VPure.assign rfl rfl) ?_
                     refine VAny.done ?_
                     (refine Less.mk (l := []) hcx ?ss ?hh rfl (by decide) rfl rfl; (case ss => repeat (first | exact SubS.nil | refine SubS.cons rfl rfl ?_ | refine SubS.cons (ciI (by omega)) rfl ?_ | refine SubS.cons (ciB (by assumption)) rfl ?_)); (case hh => repeat (first | exact SubH.nil | refine SubH.cons rfl rfl rfl ?_)))
            ·refine VMv.load rfl rfl rfl (VLoad.boxA rfl rfl rfl (by rfl) (leR (by rfl)) (by decide)) ?_
             refine VAny.movesI (is := [17]) (by kernel_rfl) (by simp) rfl (all1 ?_)
             ·refine VMv.oo rfl rfl rfl rfl (VOp.gives rfl Try.func23 rfl rfl rfl rfl rfl rfl (inner_v g w hg (by omega)) rfl) ?_
              refine VAny.movesI (is := [20]) (by kernel_rfl) (by simp) rfl (all1 ?_)
              ·refine VMv.oo rfl rfl rfl rfl (VOp.gives rfl Try.func24 rfl rfl rfl rfl rfl rfl (rinner_v g w hg (by omega)) rfl) ?_
               refine VAny.movesI (is := [21]) (by kernel_rfl) (by simp) rfl (all1 ?_)
               ·refine VMv.pure rfl rfl Try.func17 rfl rfl rfl rfl rfl rfl rfl rfl (spots_t (innerS g w) hI) ?_
                refine VAny.pureI (i := 22) rfl rfl (by kernel_rfl) rfl (VPure.pick_t rfl rfl rfl) ?_
                refine VAny.pureI (i := 23) rfl rfl (by kernel_rfl) rfl (VPure.move rfl rfl) ?_
                refine VAny.movesI (is := [24, 25]) (by kernel_rfl) (by simp) rfl (allC ?_ (all1 ?_))
                ·refine VMv.load rfl rfl rfl (VLoad.boxA rfl rfl rfl (by rfl) (leR (by rfl)) (by decide)) ?_
                 refine VAny.movesI (is := [25]) (by kernel_rfl) (by simp) rfl (all1 ?_)
                 ·refine VMv.load rfl rfl rfl (VLoad.boxA rfl rfl rfl (by rfl) (leR (by rfl)) (by decide)) ?_
                  refine VAny.movesI (is := [26]) (by kernel_rfl) (by simp) rfl (all1 ?_)
                  ·refine VMv.pure rfl rfl Try.func25 rfl rfl rfl rfl rfl rfl rfl rfl (kgram_v g hg) ?_
                   refine VAny.pureI (i := 27) rfl rfl (by kernel_rfl) rfl (VPure.pick_t rfl rfl rfl) ?_
                   refine VAny.pureI (i := 28) rfl rfl (by kernel_rfl) rfl (VPure.move rfl rfl) ?_
                   refine VAny.pureI (i := 29) rfl rfl (by kernel_rfl) rfl (VPure.move rfl rfl) ?_
                   refine VAny.pureI (i := 30) rfl rfl (by kernel_rfl) rfl (VPure.move rfl rfl) ?_
                   refine VAny.movesI (is := [31]) (by kernel_rfl) (by simp) rfl (all1 ?_)
                   ·refine VMv.pure rfl rfl Try.func17 rfl rfl rfl rfl rfl rfl rfl rfl (spots_t w (by omega)) ?_
                    refine VAny.pureI (i := 32) rfl rfl (by kernel_rfl) rfl (VPure.pick_t rfl rfl rfl) ?_
                    refine VAny.pureI (i := 33) rfl rfl (by kernel_rfl) rfl (VPure.move rfl rfl) ?_
                    refine VAny.movesI (is := [34]) (by kernel_rfl) (by simp) rfl (all1 ?_)
                    ·refine VMv.pure rfl rfl Try.func12 rfl rfl rfl rfl rfl rfl rfl rfl (wakes_v) ?_
                     refine VAny.pureI (i := 35) rfl rfl (by kernel_rfl) rfl (VPure.pick_t rfl rfl rfl) ?_
                     refine VAny.pureI (i := 36) rfl rfl (by kernel_rfl) rfl (VPure.assign rfl rfl) ?_
                     refine VAny.done ?_
                     (refine Less.mk (l := []) hcx ?ss ?hh rfl (by decide) rfl rfl; (case ss => repeat (first | exact SubS.nil | refine SubS.cons rfl rfl ?_ | refine SubS.cons (ciI (by omega)) rfl ?_ | refine SubS.cons (ciB (by assumption)) rfl ?_)); (case hh => repeat (first | exact SubH.nil | refine SubH.cons rfl rfl rfl ?_)))
                ·refine VMv.load rfl rfl rfl (VLoad.boxA rfl rfl rfl (by rfl) (leR (by rfl)) (by decide)) ?_
                 refine VAny.movesI (is := [24]) (by kernel_rfl) (by simp) rfl (all1 ?_)
                 ·refine VMv.load rfl rfl rfl (VLoad.boxA rfl rfl rfl (by rfl) (leR (by rfl)) (by decide)) ?_
                  refine VAny.movesI (is := [26]) (by kernel_rfl) (by simp) rfl (all1 ?_)
                  ·refine VMv.pure rfl rfl Try.func25 rfl rfl rfl rfl rfl rfl rfl rfl (kgram_v g hg) ?_
                   refine VAny.pureI (i := 27) rfl rfl (by kernel_rfl) rfl (VPure.pick_t rfl rfl rfl) ?_
                   refine VAny.pureI (i := 28) rfl rfl (by kernel_rfl) rfl (VPure.move rfl rfl) ?_
                   refine VAny.pureI (i := 29) rfl rfl (by kernel_rfl) rfl (VPure.move rfl rfl) ?_
                   refine VAny.pureI (i := 30) rfl rfl (by kernel_rfl) rfl (VPure.move rfl rfl) ?_
                   refine VAny.movesI (is := [31]) (by kernel_rfl) (by simp) rfl (all1 ?_)
                   ·refine VMv.pure rfl rfl Try.func17 rfl rfl rfl rfl rfl rfl rfl rfl (spots_t w (by omega)) ?_
                    refine VAny.pureI (i := 32) rfl rfl (by kernel_rfl) rfl (VPure.pick_t rfl rfl rfl) ?_
                    refine VAny.pureI (i := 33) rfl rfl (by kernel_rfl) rfl (VPure.move rfl rfl) ?_
                    refine VAny.movesI (is := [34]) (by kernel_rfl) (by simp) rfl (all1 ?_)
                    ·refine VMv.pure rfl rfl Try.func12 rfl rfl rfl rfl rfl rfl rfl rfl (wakes_v) ?_
                     refine VAny.pureI (i := 35) rfl rfl (by kernel_rfl) rfl (VPure.pick_t rfl rfl rfl) ?_
                     refine VAny.pureI (i := 36) rfl rfl (by kernel_rfl) rfl (VPure.assign rfl rfl) ?_
                     refine VAny.done ?_
                     (refine Less.mk (l := []) hcx ?ss ?hh rfl (by decide) rfl rfl; (case ss => repeat (first | exact SubS.nil | refine SubS.cons rfl rfl ?_ | refine SubS.cons (ciI (by omega)) rfl ?_ | refine SubS.cons (ciB (by assumption)) rfl ?_)); (case hh => repeat (first | exact SubH.nil | refine SubH.cons rfl rfl rfl ?_)))
           ·refine VMv.load rfl rfl rfl (VLoad.boxA rfl rfl rfl (by rfl) (leR (by rfl)) (by decide)) ?_
            refine VAny.movesI (is := [15]) (by kernel_rfl) (by simp) rfl (all1 ?_)
            ·refine VMv.load rfl rfl rfl (VLoad.boxA rfl rfl rfl (by rfl) (leR (by rfl)) (by decide)) ?_
             refine VAny.movesI (is := [17]) (by kernel_rfl) (by simp) rfl (all1 ?_)
             ·refine VMv.oo rfl rfl rfl rfl (VOp.gives rfl Try.func23 rfl rfl rfl rfl rfl rfl (inner_v g w hg (by omega)) rfl) ?_
              refine VAny.movesI (is := [20]) (by kernel_rfl) (by simp) rfl (all1 ?_)
              ·refine VMv.oo rfl rfl rfl rfl (VOp.gives rfl Try.func24 rfl rfl rfl rfl rfl rfl (rinner_v g w hg (by omega)) rfl) ?_
               refine VAny.movesI (is := [21]) (by kernel_rfl) (by simp) rfl (all1 ?_)
               ·refine VMv.pure rfl rfl Try.func17 rfl rfl rfl rfl rfl rfl rfl rfl (spots_t (innerS g w) hI) ?_
                refine VAny.pureI (i := 22) rfl rfl (by kernel_rfl) rfl (VPure.pick_t rfl rfl rfl) ?_
                refine VAny.pureI (i := 23) rfl rfl (by kernel_rfl) rfl (VPure.move rfl rfl) ?_
                refine VAny.movesI (is := [24, 25]) (by kernel_rfl) (by simp) rfl (allC ?_ (all1 ?_))
                ·refine VMv.load rfl rfl rfl (VLoad.boxA rfl rfl rfl (by rfl) (leR (by rfl)) (by decide)) ?_
                 refine VAny.movesI (is := [25]) (by kernel_rfl) (by simp) rfl (all1 ?_)
                 ·refine VMv.load rfl rfl rfl (VLoad.boxA rfl rfl rfl (by rfl) (leR (by rfl)) (by decide)) ?_
                  refine VAny.movesI (is := [26]) (by kernel_rfl) (by simp) rfl (all1 ?_)
                  ·refine VMv.pure rfl rfl Try.func25 rfl rfl rfl rfl rfl rfl rfl rfl (kgram_v g hg) ?_
                   refine VAny.pureI (i := 27) rfl rfl (by kernel_rfl) rfl (VPure.pick_t rfl rfl rfl) ?_
                   refine VAny.pureI (i := 28) rfl rfl (by kernel_rfl) rfl (VPure.move rfl rfl) ?_
                   refine VAny.pureI (i := 29) rfl rfl (by kernel_rfl) rfl (VPure.move rfl rfl) ?_
                   refine VAny.pureI (i := 30) rfl rfl (by kernel_rfl) rfl (VPure.move rfl rfl) ?_
                   refine VAny.movesI (is := [31]) (by kernel_rfl) (by simp) rfl (all1 ?_)
                   ·refine VMv.pure rfl rfl Try.func17 rfl rfl rfl rfl rfl rfl rfl rfl (spots_t w (by omega)) ?_
                    refine VAny.pureI (i := 32) rfl rfl (by kernel_rfl) rfl (VPure.pick_t rfl rfl rfl) ?_
                    refine VAny.pureI (i := 33) rfl rfl (by kernel_rfl) rfl (VPure.move rfl rfl) ?_
                    refine VAny.movesI (is := [34]) (by kernel_rfl) (by simp) rfl (all1 ?_)
                    ·refine VMv.pure rfl rfl Try.func12 rfl rfl rfl rfl rfl rfl rfl rfl (wakes_v) ?_
                     refine VAny.pureI (i := 35) rfl rfl (by kernel_rfl) rfl (VPure.pick_t rfl rfl rfl) ?_
                     refine VAny.pureI (i := 36) rfl rfl (by kernel_rfl) rfl (VPure.assign rfl rfl) ?_
                     refine VAny.done ?_
                     (refine Less.mk (l := []) hcx ?ss ?hh rfl (by decide) rfl rfl; (case ss => repeat (first | exact SubS.nil | refine SubS.cons rfl rfl ?_ | refine SubS.cons (ciI (by omega)) rfl ?_ | refine SubS.cons (ciB (by assumption)) rfl ?_)); (case hh => repeat (first | exact SubH.nil | refine SubH.cons rfl rfl rfl ?_)))
                ·refine VMv.load rfl rfl rfl (VLoad.boxA rfl rfl rfl (by rfl) (leR (by rfl)) (by decide)) ?_
                 refine VAny.movesI (is := [24]) (by kernel_rfl) (by simp) rfl (all1 ?_)
                 ·refine VMv.load rfl rfl rfl (VLoad.boxA rfl rfl rfl (by rfl) (leR (by rfl)) (by decide)) ?_
                  refine VAny.movesI (is := [26]) (by kernel_rfl) (by simp) rfl (all1 ?_)
                  ·refine VMv.pure rfl rfl Try.func25 rfl rfl rfl rfl rfl rfl rfl rfl (kgram_v g hg) ?_
                   refine VAny.pureI (i := 27) rfl rfl (by kernel_rfl) rfl (VPure.pick_t rfl rfl rfl) ?_
                   refine VAny.pureI (i := 28) rfl rfl (by kernel_rfl) rfl (VPure.move rfl rfl) ?_
                   refine VAny.pureI (i := 29) rfl rfl (by kernel_rfl) rfl (VPure.move rfl rfl) ?_
                   refine VAny.pureI (i := 30) rfl rfl (by kernel_rfl) rfl (VPure.move rfl rfl) ?_
                   refine VAny.movesI (is := [31]) (by kernel_rfl) (by simp) rfl (all1 ?_)
                   ·refine VMv.pure rfl rfl Try.func17 rfl rfl rfl rfl rfl rfl rfl rfl (spots_t w (by omega)) ?_
                    refine VAny.pureI (i := 32) rfl rfl (by kernel_rfl) rfl (VPure.pick_t rfl rfl rfl) ?_
                    refine VAny.pureI (i := 33) rfl rfl (by kernel_rfl) rfl (VPure.move rfl rfl) ?_
                    refine VAny.movesI (is := [34]) (by kernel_rfl) (by simp) rfl (all1 ?_)
                    ·refine VMv.pure rfl rfl Try.func12 rfl rfl rfl rfl rfl rfl rfl rfl (wakes_v) ?_
                     refine VAny.pureI (i := 35) rfl rfl (by kernel_rfl) rfl (VPure.pick_t rfl rfl rfl) ?_
                     refine VAny.pureI (i := 36) rfl rfl (by kernel_rfl) rfl (VPure.assign rfl rfl) ?_
                     refine VAny.done ?_
                     (refine Less.mk (l := []) hcx ?ss ?hh rfl (by decide) rfl rfl; (case ss => repeat (first | exact SubS.nil | refine SubS.cons rfl rfl ?_ | refine SubS.cons (ciI (by omega)) rfl ?_ | refine SubS.cons (ciB (by assumption)) rfl ?_)); (case hh => repeat (first | exact SubH.nil | refine SubH.cons rfl rfl rfl ?_)))
  refine VCode.retD rfl rfl (.tmp rfl .nil) ?_
  rfl
theorem dtells_law (g : Gr) (gg : goodGr g) (w : List Spot) (gw : goodSps w) : VCalls Try.prog 3 [.agg ((encG g).map D.toV), .sl 2 (w.map encP)] [] 0 (Gives (.val (.bool true))) :=
 have h : reachBytes < 140737488355328 := reachBytes_lt
 dtells_v g w (by have := gw.2; omega)
end Go.Proofs.Ytfjfbapiheehaaa.V
end
