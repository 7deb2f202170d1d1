/- What D needs of this session's own texts, part 4: put together by wip/dce.py. -/
import Derived.Test.YtfjfbapiheehaaaK3D
import Derived.Deep.LoopGhost
import Derived.OrdersHeld
import Derived.ProofKit
import Derived.Laws.Cells
import Derived.Laws.Strings
import Derived.DataReads
import Derived.IntWalk
import Derived.Laws.Tables
import Derived.Laws.OwnMore
import Derived.Laws.CopyRow
import Derived.Maps.AppendAt
section
set_option linter.unusedVariables false
set_option linter.unusedSimpArgs false
namespace Go.Proofs.Ytfjfbapiheehaaa.V
open Go Go.RowKit
inductive D where
 | val (v : Value)
 | sl (sz : Nat) (xs : List (List D))
instance : Inhabited D := ⟨.val (.int .i64 0)⟩
inductive V where
 | val (v : Value)
 | sl (sz : Nat) (xs : List (List D))
 | agg (cs : List V)
 | tup (vs : List V)
 | fn (f : FuncId) (caps : List V)
 | ptr (id off : Nat)
 | ael (id pos : Nat)
 | el (cs : List D)
 | ref (id : Nat)
 | junk
instance : Inhabited V := ⟨.junk⟩
inductive N where
 | own (e : TypeId) (s : Nat) (ys : List (List D))
 | dat (d : D)
 | pin (v : Value) (e : TypeId) (s : Nat) (ys : List (List D))
inductive O where
 | cells (t : TypeId) (cs : List V)
 | nest (t : TypeId) (sz : Nat) (rows : List (List N)) (hole : Option (Nat × Nat × Nat))
 | arr (t : TypeId) (sz : Nat) (xs : List (List D))
 | map (es : List (List D × List D))
 | chan (cap : Nat) (buf : List (List D)) (closed : Bool)
 | iter (mp n : Nat) (seen : List Nat)
 | dead
def D.toV : D → V
 | .val v => .val v
 | .sl sz xs => .sl sz xs
def lk {α : Type} : List (Nat × α) → Nat → Option α
 | [], _ => none
 | (d, v) :: s, e => match Nat.beq d e with
  | true => some v
  | false => lk s e
theorem lk_same {α : Type} (s : List (Nat × α)) (d : Nat) (v : α) : lk ((d, v) :: s) d = some v := by simp [lk]
theorem lk_other {α : Type} (s : List (Nat × α)) {d e : Nat} (v : α) (h : d ≠ e) : lk ((d, v) :: s) e = lk s e := by
 have : Nat.beq d e = false := by cases hb : Nat.beq d e with
  | true => exact absurd (Nat.eq_of_beq_eq_true hb) h
  | false => rfl
 simp [lk, this]
theorem lk_cons {α : Type} (s : List (Nat × α)) (d e : Nat) (v : α) : lk ((d, v) :: s) e = if d = e then some v else lk s e := by
 by_cases h : d = e
 ·subst h; rw [lk_same, if_pos rfl]
 ·rw [lk_other _ _ h, if_neg h]
def most : Nat := 140737488355328
inductive DRep (R : Addr → Value → Prop) : D → Value → Prop
 | val (v : Value) : v.oneCell' = true → DRep R (.val v) v
 | nil (sz : Nat) (A : Option Addr) (c : Nat) : DRep R (.sl sz []) (.slice A 0 c)
 | sl (sz : Nat) (xs : List (List D)) (ad : Addr) (c : Nat) (f : Nat → Nat → Value) : xs.length ≤ c → xs.length ≤ most → (∀ row ∈ xs, row.length = sz) →
   (∀ (i j : Nat) (d : D), (xs[i]?).bind (·[j]?) = some d → R (ad.add (i * sz + j)) (f i j)) → (∀ (i j : Nat) (d : D), (xs[i]?).bind (·[j]?) = some d → DRep R d (f i j)) → DRep R (.sl sz xs) (.slice (some ad) xs.length c)
theorem DRep.one {R : Addr → Value → Prop} {d : D} {m : Value} (h : DRep R d m) : m.oneCell' = true := by
 cases h with
 | val _ h => exact h
 | nil => rfl
 | sl => rfl
theorem DRep.mono {R R' : Addr → Value → Prop} (hR : ∀ a v, R a v → R' a v) {d : D} {m : Value} (h : DRep R d m) : DRep R' d m := by
 induction h with
 | val v h => exact .val v h
 | nil sz A c => exact .nil sz A c
 | sl sz xs ad c f h1 h2 h3 h4 _ ih => exact .sl sz xs ad c f h1 h2 h3 (fun i j d h => hR _ _ (h4 i j d h)) ih
def hdV : Value → Value
 | .agg ms => ms.getD 0 undef
 | v => v
inductive VRep (R : Addr → Value → Prop) (gv : Nat → Option Value) (x : Nat) : V → Value → Prop
 | val (v : Value) : v.oneCell' = true → VRep R gv x (.val v) v
 | sl (sz : Nat) (xs : List (List D)) (m : Value) : DRep R (.sl sz xs) m → VRep R gv x (.sl sz xs) m
 | agg (cs : List V) (ms : Array Value) : ms.size = cs.length → (∀ (i : Nat) (c : V) (m : Value), cs[i]? = some c → ms[i]? = some m → VRep R gv x c m) → VRep R gv x (.agg cs) (.agg ms)
 | tup (cs : List V) (ms : Array Value) : ms.size = cs.length → (∀ (i : Nat) (c : V) (m : Value), cs[i]? = some c → ms[i]? = some m → VRep R gv x c m) → VRep R gv x (.tup cs) (.tuple ms)
 | fn (f : FuncId) (cs : List V) (ms : Array Value) : ms.size = cs.length → (∀ (i : Nat) (c : V) (m : Value), cs[i]? = some c → ms[i]? = some m → VRep R gv x c m) → VRep R gv x (.fn f cs) (.func (.func f) #[] ms)
 | ptr (id off : Nat) (m : Value) : id < x → m.oneCell' = true → (∀ b, gv id = some (.pointer (some ⟨b, 0, none⟩)) → m = .pointer (some ⟨b, off, none⟩)) → VRep R gv x (.ptr id off) m
 | ael (id pos : Nat) (m : Value) : id < x → m.oneCell' = true → (∀ v ad n c, gv id = some v → hdV v = .slice (some ad) n c → m = .pointer (some (ad.add pos))) → VRep R gv x (.ael id pos) m
 | el (cs : List D) (ad : Addr) : (∀ (j : Nat) (d : D), cs[j]? = some d → ∃ m, R (ad.add j) m ∧ DRep R d m) → VRep R gv x (.el cs) (.pointer (some ad))
 | ref (id : Nat) (m : Value) : id < x → m.oneCell' = true → (∀ v, gv id = some v → m = hdV v) → VRep R gv x (.ref id) m
 | junk (m : Value) : VRep R gv x .junk m
theorem VRep.mono {R R' : Addr → Value → Prop} {gv gv' : Nat → Option Value} {x x' : Nat} (hR : ∀ a v, R a v → R' a v) (hg : ∀ id v, id < x → gv' id = some v → gv id = some v) (hx : x ≤ x') {v : V} {m : Value} (h : VRep R gv x v m) : VRep R' gv' x' v m := by
 induction h with
 | val v h => exact .val v h
 | sl sz xs m h => exact .sl sz xs m (h.mono hR)
 | agg cs ms h1 _ ih => exact .agg cs ms h1 ih
 | tup cs ms h1 _ ih => exact .tup cs ms h1 ih
 | fn f cs ms h1 _ ih => exact .fn f cs ms h1 ih
 | ptr id off m h1 h0 h2 => exact .ptr id off m (Nat.lt_of_lt_of_le h1 hx) h0 (fun b hb => h2 b (hg _ _ h1 hb))
 | ael id pos m h1 h0 h2 => exact .ael id pos m (Nat.lt_of_lt_of_le h1 hx) h0 (fun v ad n c hb => h2 v ad n c (hg _ _ h1 hb))
 | el cs ad h => exact .el cs ad (fun j d hj => let ⟨m, hm, hd⟩ := h j d hj; ⟨m, hR _ _ hm, hd.mono hR⟩)
 | ref id m h1 h0 h2 => exact .ref id m (Nat.lt_of_lt_of_le h1 hx) h0 (fun v hv => h2 v (hg _ _ h1 hv))
 | junk m => exact .junk m
theorem VRep.of_D {R : Addr → Value → Prop} {gv : Nat → Option Value} {x : Nat} {d : D} {m : Value} (h : DRep R d m) : VRep R gv x d.toV m := by
 cases d with
 | val v => cases h with | val _ h => exact .val _ h
 | sl sz xs => exact .sl sz xs m h
def V.single : V → Bool
 | .agg _ => false
 | .tup _ => false
 | .junk => false
 | _ => true
theorem VRep.one {R : Addr → Value → Prop} {gv : Nat → Option Value} {x : Nat} {v : V} {m : Value} (h : VRep R gv x v m) (hs : v.single = true) : m.oneCell' = true := by
 cases h with
 | val _ h => exact h
 | sl _ _ _ h => exact h.one
 | agg => cases hs
 | tup => cases hs
 | fn => rfl
 | ptr _ _ _ _ h => exact h
 | ael _ _ _ _ h => exact h
 | el => rfl
 | ref _ _ _ h => exact h
 | junk => cases hs
theorem D.single (d : D) : d.toV.single = true := by cases d <;> rfl
theorem VRep.val_inv {R : Addr → Value → Prop} {gv : Nat → Option Value} {x : Nat} {v m : Value} (h : VRep R gv x (.val v) m) : m = v := by cases h; rfl
def O.live : O → Bool
 | .dead => false
 | _ => true
def blk : Value → Option Nat
 | .pointer (some a) => some a.block
 | .slice (some a) _ _ => some a.block
 | .map (some r) => some r
 | .chan (some r) => some r
 | _ => none
def Blk (v : Value) (k : Nat) : Prop := blk v = some k ∨ ∃ ms : Array Value, v = .agg ms ∧ ∃ m ∈ ms, blk m = some k
theorem Blk.of {v : Value} {k : Nat} (h : blk v = some k) : Blk v k := .inl h
theorem Blk.inv {v : Value} {k : Nat} (h : Blk v k) (hv : v.oneCell' = true) : blk v = some k := by
 rcases h with h | ⟨ms, rfl, m, hm, hk⟩
 ·exact h
 ·cases hv
theorem hdV_one {v : Value} (h : v.oneCell' = true) : hdV v = v := by cases v <;> first | rfl | cases h
theorem Blk.eq {v : Value} {b k : Nat} (hb : blk v = some b) (h : Blk v k) : k = b := by
 rcases h with h | ⟨ms, rfl, _⟩
 ·rw [hb] at h; exact (Option.some.inj h).symm
 ·cases hb
theorem Blk.same {v : Value} {k : Nat} (hv : v.oneCell' = true) : Blk v k ↔ blk v = some k := ⟨fun h => h.inv hv, .inl⟩
abbrev Heap := List (Nat × O)
def gvOf (h : Heap) (g : Nat → Value) (id : Nat) : Option Value := match lk h id with
 | some o => if o.live then some (g id) else none
 | none => none
def Own (h : Heap) (g : Nat → Value) (k : Nat) : Prop := ∃ id v, gvOf h g id = some v ∧ Blk v k
structure Rd (z : Nat → Prop) (h : Heap) (g : Nat → Value) (w : World) (a : Addr) (v : Value) : Prop where
 z : ¬ z a.block
 own : ¬ Own h g a.block
 cell : w.cell? a = some v
def rowRep (R : Addr → Value → Prop) (ds : List D) (ms : List Value) : Prop := ms.length = ds.length ∧ ∀ (i : Nat) (d : D) (m : Value), ds[i]? = some d → ms[i]? = some m → DRep R d m
def cellRep (R : Addr → Value → Prop) : List D → Value → Prop
 | [d], m => DRep R d m
 | ds, m => ∃ ms, m = .agg ms ∧ rowRep R ds ms.toList
theorem cellRep.mono {R R' : Addr → Value → Prop} {ds : List D} {m : Value} (h : cellRep R ds m) (hR : ∀ a v, R a v → R' a v) : cellRep R' ds m := by
 match ds, h with
 | [d], h => exact DRep.mono hR h
 | [], ⟨ms, h1, h2⟩ => exact ⟨ms, h1, h2.1, fun i d m a b => (h2.2 i d m a b).mono hR⟩
 | d :: d' :: ds, ⟨ms, h1, h2⟩ => exact ⟨ms, h1, h2.1, fun i d m a b => (h2.2 i d m a b).mono hR⟩
structure InRep (R : Addr → Value → Prop) (w : World) (e : TypeId) (s : Nat) (ys : List (List D)) (m : Value) : Prop where
 ks : ∃ ks : List Value, w.ownsRow 0 e s m ys.length ks ∧ (∀ k ∈ ks, k.oneCell' = true) ∧ ∀ (i j : Nat) (d : D), (ys[i]?).bind (·[j]?) = some d → ∃ k, ks[i * s + j]? = some k ∧ DRep R d k
 row : ∀ row ∈ ys, row.length = s
 len : ys.length ≤ most
def NRep (R : Addr → Value → Prop) (w : World) : N → Value → Value → Prop
 | .own e s ys, m, u => InRep R w e s ys m ∧ blk u = blk m
 | .dat d, m, u => DRep R d m ∧ blk u = none
 | .pin v e s ys, m, u => (InRep R w e s ys m ∧ blk u = blk m) ∧ m = v
def HoleRep (R : Addr → Value → Prop) (gv : Nat → Option Value) (x : Nat) (w : World) (hole : Option (Nat × Nat × Nat)) (i j : Nat) (c : N) (m u : Value) : Prop := match hole with
 | none => NRep R w c m u
 | some (i', j', id) => if i' = i ∧ j' = j then VRep R gv x (.ref id) m ∧ blk u = none else NRep R w c m u
inductive ORep (R : Addr → Value → Prop) (gv : Nat → Option Value) (x : Nat) (w : World) : O → Value → Prop
 | cells (t : TypeId) (cs : List V) (b : Nat) (ms : Array Value) : w.heap[b]? = some (.cells ms t (0, 0)) → ms.size = cs.length → (∀ m ∈ ms, m.oneCell' = true) → (∀ (i : Nat) (c : V) (m : Value), cs[i]? = some c → ms[i]? = some m → VRep R gv x c m) →
   ORep R gv x w (.cells t cs) (.pointer (some ⟨b, 0, none⟩))
 | arr (t : TypeId) (sz : Nat) (xs : List (List D)) (v : Value) (ms : List Value) : w.ownsRow 0 t sz v xs.length ms → (∀ row ∈ xs, row.length = sz) → xs.length ≤ most → (∀ m ∈ ms, m.oneCell' = true) →
   (∀ (i j : Nat) (d : D), (xs[i]?).bind (·[j]?) = some d → ∃ m, ms[i * sz + j]? = some m ∧ DRep R d m) → ORep R gv x w (.arr t sz xs) v
 | nest (t : TypeId) (sz : Nat) (rows : List (List N)) (hole : Option (Nat × Nat × Nat)) (v : Value) (ms us : List Value) : w.ownsRow 0 t sz v rows.length ms → (∀ row ∈ rows, row.length = sz) → rows.length ≤ most → (∀ m ∈ ms, m.oneCell' = true) → us.length = ms.length →
   (∀ (i j : Nat) (c : N), (rows[i]?).bind (·[j]?) = some c → ∃ m u, ms[i * sz + j]? = some m ∧ us[i * sz + j]? = some u ∧ HoleRep R gv x w hole i j c m u) →
   (∀ (p q : Nat) (u u' : Value) (k : Nat), (v :: us)[p]? = some u → (v :: us)[q]? = some u' → blk u = some k → blk u' = some k → p = q) → ORep R gv x w (.nest t sz rows hole) (.agg (v :: us).toArray)
 | map (es : List (List D × List D)) (r : Nat) (ms : Array MapEntry) (cl : Nat) : w.heap[r]? = some (.map ms cl) → ms.size = es.length →
   (∀ (i : Nat) (e : List D × List D) (m : MapEntry), es[i]? = some e → ms[i]? = some m → cellRep R e.1 m.key ∧ cellRep R e.2 m.val) → (cl = ms.size ∧ ∀ (i : Nat) (m : MapEntry), ms[i]? = some m → m.born = i) → ORep R gv x w (.map es) (.map (some r))
 | iter (mp n : Nat) (seen : List Nat) (r b : Nat) (sn : Array Nat) : w.heap[r]? = some (.mapIter (some b) n sn n) → sn.toList = seen → VRep R gv x (.ref mp) (.map (some b)) → ORep R gv x w (.iter mp n seen) (.pointer (some ⟨r, 0, none⟩))
 | chan (cap : Nat) (buf : List (List D)) (closed : Bool) (r : Nat) (ms : Array Value) (s q : Nat) : w.heap[r]? = some (.chan cap ms closed s q false) → ms.size = buf.length →
   (∀ (i : Nat) (e : List D) (m : Value), buf[i]? = some e → ms[i]? = some m → cellRep R e m) → ORep R gv x w (.chan cap buf closed) (.chan (some r))
theorem blk_own {v : Value} {k : Nat} (h : v.ownBlock = some k) : blk v = some k := by
 cases v <;> simp [Value.ownBlock] at h
 rename_i a n c
 cases a <;> simp [Value.ownBlock] at h
 simp [blk, h]
theorem InRep.move {R R' : Addr → Value → Prop} {w w' : World} {e : TypeId} {s : Nat} {ys : List (List D)} {m : Value} (h : InRep R w e s ys m) (hR : ∀ a v, R a v → R' a v) (hw : ∀ k, blk m = some k → w'.heap[k]? = w.heap[k]?) : InRep R' w' e s ys m := by
 obtain ⟨⟨ks, e1, e2, e3⟩, e4, e5⟩ := h
 exact ⟨⟨ks, Go.Proofs.YtfjfbapiheehaaaW.PrintWords.own_move e1 (fun k hk => hw k (blk_own hk)), e2, fun i j d h => let ⟨k, hk, hd⟩ := e3 i j d h; ⟨k, hk, hd.mono hR⟩⟩, e4, e5⟩
theorem ownsRow_hd {w : World} {t : TypeId} {sz n : Nat} {v : Value} {ms : List Value} (h : w.ownsRow 0 t sz v n ms) : hdV v = v := by
 rcases h.2 with ⟨rfl, _⟩ | ⟨_, _, _, rfl, _⟩ <;> rfl
theorem NRep.move {R R' : Addr → Value → Prop} {w w' : World} {c : N} {m u : Value} (h : NRep R w c m u) (hR : ∀ a v, R a v → R' a v) (hw : ∀ k, blk u = some k → w'.heap[k]? = w.heap[k]?) : NRep R' w' c m u := by
 cases c with
 | own e s ys => exact ⟨h.1.move hR (fun k hk => hw k (h.2.trans hk)), h.2⟩
 | dat d => exact ⟨h.1.mono hR, h.2⟩
 | pin v e s ys => exact ⟨⟨h.1.1.move hR (fun k hk => hw k (h.1.2.trans hk)), h.1.2⟩, h.2⟩
def N.toD : N → D
 | .own e s ys => .sl s ys
 | .dat d => d
 | .pin _ _ s ys => .sl s ys
theorem rows_get {α β : Type} (f : α → β) (rows : List (List α)) (i j : Nat) : ((rows.map fun r => r.map f)[i]?).bind (·[j]?) = ((rows[i]?).bind (·[j]?)).map f := by
 rw [List.getElem?_map]
 cases rows[i]? with
 | none => rfl
 | some r => simp
def holeTo (φ : Nat → Nat) (p : Nat × Nat × Nat) : Nat × Nat × Nat := (p.1, p.2.1, φ p.2.2)
theorem Blk.main {v : Value} {us : List Value} {k : Nat} (h : blk v = some k) : Blk (.agg (v :: us).toArray) k := .inr ⟨_, rfl, v, by simp, h⟩
theorem Blk.inner {v u : Value} {us : List Value} {p k : Nat} (hu : us[p]? = some u) (h : blk u = some k) : Blk (.agg (v :: us).toArray) k := .inr ⟨_, rfl, u, by simp [List.mem_of_getElem? hu], h⟩
theorem ORep.nest_map {R R' : Addr → Value → Prop} {gv gv' : Nat → Option Value} {x x' : Nat} {w w' : World} {t : TypeId} {sz : Nat} {rows : List (List N)} {hole : Option (Nat × Nat × Nat)} {v : Value} (φ : Nat → Nat) (h : ORep R gv x w (.nest t sz rows hole) v) (hR : ∀ a v, R a v → R' a v) (hV : ∀ i m, VRep R gv x (.ref i) m → VRep R' gv' x' (.ref (φ i)) m) (hw : ∀ k, Blk v k → w'.heap[k]? = w.heap[k]?) : ORep R' gv' x' w' (.nest t sz rows (hole.map (holeTo φ))) v := by
 cases h with
 | nest _ _ _ _ v ms us e1 e2 e3 e4 e5 e6 e7 =>
  refine .nest t sz _ _ v ms us (Go.Proofs.YtfjfbapiheehaaaW.PrintWords.own_move e1 (fun k hk => hw k (.main (blk_own hk)))) e2 e3 e4 e5 (fun i j c hc => ?_) e7
  obtain ⟨m, u, h1, h2, h3⟩ := e6 i j c hc
  refine ⟨m, u, h1, h2, ?_⟩
  have hm : ∀ k, blk u = some k → w'.heap[k]? = w.heap[k]? := fun k hk => hw k (.inner h2 hk)
  match hole, h3 with
  | none, h3 => exact NRep.move h3 hR hm
  | some (i', j', id), h3 =>
   simp only [HoleRep, holeTo, Option.map_some] at h3 ⊢
   split at h3
   ·rename_i hij; rw [if_pos hij]; exact ⟨hV _ _ h3.1, h3.2⟩
   ·rename_i hij; rw [if_neg hij]; exact NRep.move h3 hR hm
theorem ORep.nest_mv {R R' : Addr → Value → Prop} {gv gv' : Nat → Option Value} {x x' : Nat} {w w' : World} {t : TypeId} {sz : Nat} {rows : List (List N)} {hole : Option (Nat × Nat × Nat)} {v : Value} (h : ORep R gv x w (.nest t sz rows hole) v) (hR : ∀ a v, R a v → R' a v) (hV : ∀ i m, VRep R gv x (.ref i) m → VRep R' gv' x' (.ref i) m) (hw : ∀ k, Blk v k → w'.heap[k]? = w.heap[k]?) : ORep R' gv' x' w' (.nest t sz rows hole) v := by
 have := h.nest_map (fun i => i) hR hV hw
 cases hole <;> exact this
theorem ORep.nest_un {R R' : Addr → Value → Prop} {gv gv' : Nat → Option Value} {x x' : Nat} {w : World} {t : TypeId} {sz : Nat} {rows : List (List N)} {hole : Option (Nat × Nat × Nat)} {v : Value} (φ : Nat → Nat) (h : ORep R gv x w (.nest t sz rows (hole.map (holeTo φ))) v) (hR : ∀ a v, R a v → R' a v) (hV : ∀ i m, (∃ a b : Nat, hole = some (a, b, i)) → VRep R gv x (.ref (φ i)) m → VRep R' gv' x' (.ref i) m) : ORep R' gv' x' w (.nest t sz rows hole) v := by
 cases h with
 | nest _ _ _ _ v ms us e1 e2 e3 e4 e5 e6 e7 =>
  refine .nest t sz _ _ v ms us e1 e2 e3 e4 e5 (fun i j c hc => ?_) e7
  obtain ⟨m, u, h1, h2, h3⟩ := e6 i j c hc
  refine ⟨m, u, h1, h2, ?_⟩
  match hole, h3 with
  | none, h3 => exact NRep.move h3 hR (fun _ _ => rfl)
  | some (i', j', id), h3 =>
   simp only [HoleRep, holeTo, Option.map_some] at h3 ⊢
   split at h3
   ·rename_i hij; rw [if_pos hij]; exact ⟨hV _ _ ⟨_, _, rfl⟩ h3.1, h3.2⟩
   ·rename_i hij; rw [if_neg hij]; exact NRep.move h3 hR (fun _ _ => rfl)
structure Cx where
 w : World
 own : Nat → Prop
 x : Nat
 gv : Nat → Option Value
 z : Nat → Prop
 dfs : List Deferred
structure St where
 s : List (Nat × V)
 h : Heap
 x : Nat
structure HRep (cx : Cx) (g : Nat → Value) (h : Heap) (x : Nat) (w : World) : Prop where
 os : w.os = cx.w.os
 tape : w.tape = cx.w.tape
 output : w.output = cx.w.output
 size : cx.w.heap.size ≤ w.heap.size
 old : ∀ k, k < cx.w.heap.size → ¬ cx.own k → w.heap[k]? = cx.w.heap[k]?
 obj : ∀ id v, gvOf h g id = some v → id < x ∧ ∃ o, lk h id = some o ∧ ORep (Rd cx.z h g w) (gvOf h g) x w o v
 apart : ∀ id id' v v' k, gvOf h g id = some v → gvOf h g id' = some v' → Blk v k → Blk v' k → id = id'
 mine : ∀ id v k, gvOf h g id = some v → Blk v k → k < w.heap.size ∧ (cx.own k ∨ cx.w.heap.size ≤ k)
 first : ∀ id v, id < cx.x → gvOf h g id = some v → cx.gv id = some v
 low : cx.x ≤ x
 apz : ∀ k, cx.z k → k < cx.w.heap.size ∧ ¬ cx.own k
structure Rep (n : Nat) (cx : Cx) (g : Nat → Value) (st : St) (a : Act) (w : World) : Prop where
 h : HRep cx g st.h st.x w
 size : a.tmps.size = n
 defers : a.defers = cx.dfs
 s : ∀ d v, lk st.s d = some v → VRep (Rd cx.z st.h g w) (gvOf st.h g) st.x v (a.tmps.getD d undef)
structure Moves (h : Heap) (g : Nat → Value) (w : World) (h' : Heap) (g' : Nat → Value) (w' : World) : Prop where
 size : w.heap.size ≤ w'.heap.size
 own : ∀ k, k < w.heap.size → Own h' g' k → Own h g k
 keep : ∀ k, k < w.heap.size → ¬ Own h g k → w'.heap[k]? = w.heap[k]?
theorem Moves.rd {h h' : Heap} {g g' : Nat → Value} {w w' : World} (m : Moves h g w h' g' w') {z : Nat → Prop} (a : Addr) (v : Value) (hr : Rd z h g w a v) : Rd z h' g' w' a v := by
 have hlt := World.block_lt_of_cell? w a hr.cell
 exact ⟨hr.z, fun ho => hr.own (m.own _ hlt ho), (World.cell?_of_block (m.keep _ hlt hr.own)).trans hr.cell⟩
structure Next (h : Heap) (g : Nat → Value) (x : Nat) (w : World) (h' : Heap) (g' : Nat → Value) (x' : Nat) (w' : World) : Prop where
 m : Moves h g w h' g' w'
 g : ∀ id v, id < x → gvOf h' g' id = some v → gvOf h g id = some v
 x : x ≤ x'
theorem Next.v {h h' : Heap} {g g' : Nat → Value} {x x' : Nat} {w w' : World} (n : Next h g x w h' g' x' w') {z : Nat → Prop} {v : V} {m : Value} (hv : VRep (Rd z h g w) (gvOf h g) x v m) : VRep (Rd z h' g' w') (gvOf h' g') x' v m :=
 hv.mono n.m.rd n.g n.x
theorem Next.refl (h : Heap) (g : Nat → Value) (x : Nat) (w : World) : Next h g x w h g x w := ⟨⟨Nat.le_refl _, fun _ _ h => h, fun _ _ _ => rfl⟩, fun _ _ _ h => h, Nat.le_refl _⟩
theorem getD_put {a : Array Value} {d e : Nat} {v u : Value} (hd : d < a.size) : (a.setIfInBounds d v).getD e u = if d = e then v else a.getD e u := by
 simp only [Array.getD_eq_getD_getElem?, Array.getElem?_setIfInBounds]
 by_cases h : d = e
 ·subst h; simp [hd]
 ·simp [h]
theorem Rep.put {n : Nat} {cx : Cx} {g g' : Nat → Value} {st : St} {h' : Heap} {x' : Nat} {a : Act} {w w' : World} {d : Nat} {v : V} {m : Value} (r : Rep n cx g st a w) (hd : d < n) (hn : Next st.h g st.x w h' g' x' w') (hh : HRep cx g' h' x' w')
  (hv : VRep (Rd cx.z h' g' w') (gvOf h' g') x' v m) : Rep n cx g' ⟨(d, v) :: st.s, h', x'⟩ (a.put (some d) m) w' := by
 refine ⟨hh, ?_, r.defers, fun e u hu => ?_⟩
 ·simp [Act.put, r.size]
 ·simp only [Act.put]
  rw [getD_put (by rw [r.size]; exact hd)]
  simp only [lk_cons] at hu
  by_cases he : d = e
  ·rw [if_pos he] at hu ⊢
   obtain rfl := Option.some.inj hu
   exact hv
  ·rw [if_neg he] at hu ⊢
   exact hn.v (r.s e u hu)
theorem Rep.skip {n : Nat} {cx : Cx} {g g' : Nat → Value} {st : St} {h' : Heap} {x' : Nat} {a : Act} {w w' : World} {m : Value} (r : Rep n cx g st a w) (hn : Next st.h g st.x w h' g' x' w') (hh : HRep cx g' h' x' w') :
  Rep n cx g' ⟨st.s, h', x'⟩ (a.put none m) w' := ⟨hh, r.size, r.defers, fun e u hu => hn.v (r.s e u hu)⟩
end Go.Proofs.Ytfjfbapiheehaaa.V
namespace Go.Proofs.Ytfjfbapiheehaaa.V
open Go Go.RowKit
inductive VExit where
 | normal
 | exit (id : Nat)
 | ret
 | panic (c : List PanicEntry)
def constV (v : Value) : Option V := match v with
 | .agg cs => if cs.all Value.oneCell' then some (.agg (cs.toList.map .val)) else none
 | .tuple _ => none
 | v => some (.val v)
theorem constV_rep {v : Value} {u : V} (h : constV v = some u) (R : Addr → Value → Prop) (gv : Nat → Option Value) (x : Nat) : VRep R gv x u v := by
 unfold constV at h
 split at h
 ·rename_i cs
  split at h
  ·rename_i hc
   obtain rfl := Option.some.inj h
   refine .agg _ _ (by simp) (fun i c m hc' hm => ?_)
   rw [List.getElem?_map, Array.getElem?_toList, hm] at hc'
   obtain rfl := Option.some.inj hc'
   exact .val _ (Array.all_eq_true'.1 hc _ (Array.mem_of_getElem? hm))
  ·cases h
 ·cases h
 ·rename_i h1 h2
  obtain rfl := Option.some.inj h
  exact .val _ (by cases v <;> first | rfl | exact absurd rfl (h1 _) | exact absurd rfl (h2 _))
def ev (s : List (Nat × V)) : Operand → Option V
 | .tmp t => lk s t
 | .const v => constV v
 | .func f => some (.fn f [])
 | _ => none
theorem ev_rep {n : Nat} {cx : Cx} {g : Nat → Value} {st : St} {a : Act} {w : World} (r : Rep n cx g st a w) {x : Operand} {v : V} (h : ev st.s x = some v) : VRep (Rd cx.z st.h g w) (gvOf st.h g) st.x v (a.eval x) := by
 cases x with
 | tmp t => exact r.s t v h
 | const c => exact constV_rep h _ _ _
 | global _ => cases h
 | func f => obtain rfl := Option.some.inj h; exact .fn f [] #[] rfl (fun i c m h => by simp at h)
def lift (n : Nat) (cx : Cx) (Q : VExit → St → Prop) : Exit → Act → World → Prop
 | .normal, a, w => ∃ g st, Rep n cx g st a w ∧ Q .normal st
 | .exit id, a, w => ∃ g st, Rep n cx g st a w ∧ Q (.exit id) st
 | .ret, a, w => ∃ g st, Rep n cx g st a w ∧ Q .ret st
 | .panic c, a, w => a.defers = cx.dfs ∧ ∃ g st, HRep cx g st.h st.x w ∧ Q (.panic c) st
 | _, _, _ => False
theorem lift_mono {n : Nat} {cx : Cx} {Q Q' : VExit → St → Prop} (h : ∀ e st, Q e st → Q' e st) : ∀ e a w, lift n cx Q e a w → lift n cx Q' e a w := fun e a w hq => by
 cases e with
 | normal => obtain ⟨g, st, r, q⟩ := hq; exact ⟨g, st, r, h _ _ q⟩
 | exit id => obtain ⟨g, st, r, q⟩ := hq; exact ⟨g, st, r, h _ _ q⟩
 | ret => obtain ⟨g, st, r, q⟩ := hq; exact ⟨g, st, r, h _ _ q⟩
 | panic c => obtain ⟨hd, g, st, r, q⟩ := hq; exact ⟨hd, g, st, r, h _ _ q⟩
 | goto l => exact hq
 | outgrown => exact hq
def VCode (P : Program) (n : Nat) (cx : Cx) (c : Code) (Q : VExit → St → Prop) (st : St) : Prop := ∀ g a w, Rep n cx g st a w → c.wp P (lift n cx Q) a w
def VThen (K : St → Prop) (Q : VExit → St → Prop) : VExit → St → Prop
 | .normal, st => K st
 | e, st => Q e st
def VBlock (id : Nat) (Q : VExit → St → Prop) : VExit → St → Prop
 | .exit id', st => match Nat.beq id' id with
  | true => Q .normal st
  | false => Q (.exit id') st
 | e, st => Q e st
section
variable {P : Program} {n : Nat} {cx : Cx} {Q Q' : VExit → St → Prop} {st : St}
theorem VCode.mono {c : Code} (h : VCode P n cx c Q st) (hq : ∀ e st, Q e st → Q' e st) : VCode P n cx c Q' st := fun g a w r => Go.wp_mono (h g a w r) (lift_mono hq)
theorem VCode.seq {x y : Code} (h : VCode P n cx x (VThen (fun st => VCode P n cx y Q st) Q) st) : VCode P n cx (.seq x y) Q st := fun g a w r => by
 refine wp_seq (Go.wp_mono (h g a w r) ?_)
 intro e a' w' hq
 cases e with
 | normal => obtain ⟨g', st', r', q⟩ := hq; exact q g' a' w' r'
 | exit id => exact hq
 | ret => exact hq
 | panic c => exact hq
 | goto l => exact hq
 | outgrown => exact hq
theorem VCode.skip (h : Q .normal st) : VCode P n cx .skip Q st := fun g a w r => wp_skip ⟨g, st, r, h⟩
theorem VCode.exit {id : Nat} (h : Q (.exit id) st) : VCode P n cx (.exit id) Q st := fun g a w r => wp_exit ⟨g, st, r, h⟩
theorem VCode.ret (h : Q .ret st) : VCode P n cx .ret Q st := fun g a w r => wp_ret ⟨g, st, r, h⟩
theorem VCode.block {id : Nat} {c : Code} (h : VCode P n cx c (VBlock id Q) st) : VCode P n cx (.block id c) Q st := fun g a w r => by
 refine wp_block (Go.wp_mono (h g a w r) ?_)
 intro e a' w' hq
 cases e with
 | normal => exact hq
 | exit id' =>
  obtain ⟨g', st', r', q⟩ := hq
  simp only [VBlock] at q
  by_cases hid : id' = id
  ·subst hid
   simp only [Nat.beq_refl] at q
   simp only [Exit.inBlock, if_true]
   exact ⟨g', st', r', q⟩
  ·have hb : Nat.beq id' id = false := by cases hb : Nat.beq id' id with
    | true => exact absurd (Nat.eq_of_beq_eq_true hb) hid
    | false => rfl
   simp only [hb] at q
   simp only [Exit.inBlock, if_neg hid]
   exact ⟨g', st', r', q⟩
 | ret => exact hq
 | panic c => exact hq
 | goto l => exact hq
 | outgrown => exact hq
theorem VCode.cond {c : Operand} {x y : Code} {b : Bool} (hc : ev st.s c = some (.val (.bool b))) (ht : b = true → VCode P n cx x Q st) (hf : b = false → VCode P n cx y Q st) : VCode P n cx (.cond c x y) Q st := fun g a w r => by
 have hv := (ev_rep r hc).val_inv
 exact wp_cond_split hv (fun h => ht h g a w r) (fun h => hf h g a w r)
mutual
def V.ren (ρ : Nat → Nat) : V → V
 | .val v => .val v
 | .sl sz xs => .sl sz xs
 | .agg cs => .agg (V.renL ρ cs)
 | .tup cs => .tup (V.renL ρ cs)
 | .fn f cs => .fn f (V.renL ρ cs)
 | .ptr id off => .ptr (ρ id) off
 | .ael id pos => .ael (ρ id) pos
 | .el cs => .el cs
 | .ref id => .ref (ρ id)
 | .junk => .junk
def V.renL (ρ : Nat → Nat) : List V → List V
 | [] => []
 | c :: cs => V.ren ρ c :: V.renL ρ cs
end
mutual
def V.lt (x : Nat) : V → Bool
 | .val v => true
 | .sl sz xs => true
 | .agg cs => V.ltL x cs
 | .tup cs => V.ltL x cs
 | .fn f cs => V.ltL x cs
 | .ptr id off => Nat.blt id x
 | .ael id pos => Nat.blt id x
 | .el cs => true
 | .ref id => Nat.blt id x
 | .junk => true
def V.ltL (x : Nat) : List V → Bool
 | [] => true
 | c :: cs => V.lt x c && V.ltL x cs
end
def O.ren (ρ : Nat → Nat) : O → O
 | .cells t cs => .cells t (V.renL ρ cs)
 | .nest t sz rows hole => .nest t sz rows (hole.map (holeTo ρ))
 | .iter mp n s => .iter (ρ mp) n s
 | o => o
def O.lt (x : Nat) : O → Bool
 | .cells t cs => V.ltL x cs
 | .nest _ _ _ hole => match hole with
  | none => true
  | some (_, _, id) => Nat.blt id x
 | .iter mp _ _ => Nat.blt mp x
 | _ => true
theorem renL_get (ρ : Nat → Nat) (cs : List V) : ∀ (i : Nat), (V.renL ρ cs)[i]? = (cs[i]?).map (V.ren ρ) := by
 induction cs with
 | nil => intro i; simp [V.renL]
 | cons c cs ih => intro i; cases i with
  | zero => simp [V.renL]
  | succ i => simp [V.renL, ih]
theorem renL_length (ρ : Nat → Nat) (cs : List V) : (V.renL ρ cs).length = cs.length := by
 induction cs with
 | nil => rfl
 | cons c cs ih => simp [V.renL, ih]
theorem ltL_get {x : Nat} {cs : List V} (h : V.ltL x cs = true) : ∀ (i : Nat) (c : V), cs[i]? = some c → c.lt x = true := by
 induction cs with
 | nil => intro i c hc; simp at hc
 | cons d cs ih =>
  intro i c hc
  simp only [V.ltL, Bool.and_eq_true] at h
  cases i with
  | zero => simp at hc; subst hc; exact h.1
  | succ i => exact ih h.2 i c (by simpa using hc)
end
theorem VRep.unren {R : Addr → Value → Prop} {gv gv' : Nat → Option Value} {x x' : Nat} {ρ : Nat → Nat} (hg : ∀ id v, id < x' → gv' id = some v → gv (ρ id) = some v) {u : V} {m : Value} (h : VRep R gv x u m) : ∀ {v : V}, u = v.ren ρ → v.lt x' = true → VRep R gv' x' v m := by
 induction h with
 | val z hz => intro v e hl; cases v <;> simp [V.ren] at e; subst e; exact .val _ hz
 | sl sz xs m h => intro v e hl; cases v <;> simp [V.ren] at e; obtain ⟨rfl, rfl⟩ := e; exact .sl _ _ _ h
 | agg cs ms h1 h2 ih =>
  intro v e hl
  cases v <;> simp [V.ren] at e
  rename_i cs'
  subst e
  rw [renL_length] at h1
  refine .agg cs' ms h1 (fun i c m hc hm => ih i _ m (by rw [renL_get, hc]; rfl) hm rfl (ltL_get hl i c hc))
 | tup cs ms h1 h2 ih =>
  intro v e hl
  cases v <;> simp [V.ren] at e
  rename_i cs'
  subst e
  rw [renL_length] at h1
  refine .tup cs' ms h1 (fun i c m hc hm => ih i _ m (by rw [renL_get, hc]; rfl) hm rfl (ltL_get hl i c hc))
 | fn f cs ms h1 h2 ih =>
  intro v e hl
  cases v <;> simp [V.ren] at e
  rename_i f' cs'
  obtain ⟨rfl, rfl⟩ := e
  rw [renL_length] at h1
  refine .fn _ cs' ms h1 (fun i c m hc hm => ih i _ m (by rw [renL_get, hc]; rfl) hm rfl (ltL_get hl i c hc))
 | ptr id off m h1 h0 h2 =>
  intro v e hl
  cases v <;> simp [V.ren] at e
  obtain ⟨rfl, rfl⟩ := e
  rename_i id'
  have hlt : id' < x' := by simpa [V.lt] using hl
  exact .ptr _ _ _ hlt h0 (fun b hb => h2 b (hg _ _ hlt hb))
 | ael id pos m h1 h0 h2 =>
  intro v e hl
  cases v <;> simp [V.ren] at e
  obtain ⟨rfl, rfl⟩ := e
  rename_i id'
  have hlt : id' < x' := by simpa [V.lt] using hl
  exact .ael _ _ _ hlt h0 (fun v ad n c hb => h2 v ad n c (hg _ _ hlt hb))
 | el cs ad h => intro v e hl; cases v <;> simp [V.ren] at e; subst e; exact .el _ _ h
 | ref id m h1 h0 h2 =>
  intro v e hl
  cases v <;> simp [V.ren] at e
  subst e
  rename_i id'
  have hlt : id' < x' := by simpa [V.lt] using hl
  exact .ref _ _ hlt h0 (fun v hv => h2 v (hg _ _ hlt hv))
 | junk m => intro v e hl; cases v <;> simp [V.ren] at e; exact .junk _
end Go.Proofs.Ytfjfbapiheehaaa.V
namespace Go.Proofs.Ytfjfbapiheehaaa.V
open Go Go.RowKit Go.Proofs.Ytfjfbapiheehaaa.Comm
def nm (l : List Nat) (i : Nat) : Nat := (l[i]?).getD 0
def SubS (ρ : Nat → Nat) (x : Nat) (s' s : List (Nat × V)) : Prop := ∀ p ∈ s', p.2.lt x = true ∧ lk s p.1 = some (p.2.ren ρ)
theorem SubS.nil {ρ : Nat → Nat} {x : Nat} {s : List (Nat × V)} : SubS ρ x [] s := fun _ h => by cases h
theorem SubS.cons {ρ : Nat → Nat} {x : Nat} {s' s : List (Nat × V)} {d : Nat} {v : V} (h : lk s d = some (v.ren ρ)) (hl : v.lt x = true) (t : SubS ρ x s' s) : SubS ρ x ((d, v) :: s') s := fun p hp => by
 rcases List.mem_cons.1 hp with rfl | hp
 ·exact ⟨hl, h⟩
 ·exact t p hp
def SubH (ρ : Nat → Nat) (x : Nat) (h' h : Heap) : Prop := ∀ p ∈ h', p.1 < x ∧ p.2.lt x = true ∧ lk h (ρ p.1) = some (p.2.ren ρ)
theorem SubH.nil {ρ : Nat → Nat} {x : Nat} {h : Heap} : SubH ρ x [] h := fun _ h => by cases h
theorem SubH.cons {ρ : Nat → Nat} {x : Nat} {h' h : Heap} {d : Nat} {o : O} (e : lk h (ρ d) = some (o.ren ρ)) (hx : Nat.blt d x = true) (hl : o.lt x = true) (t : SubH ρ x h' h) : SubH ρ x ((d, o) :: h') h := fun p hp => by
 rcases List.mem_cons.1 hp with rfl | hp
 ·exact ⟨by simpa using hx, hl, e⟩
 ·exact t p hp
structure Sub (l : List Nat) (st' st : St) : Prop where
 s : SubS (nm l) st'.x st'.s st.s
 h : SubH (nm l) st'.x st'.h st.h
 len : l.length = st'.x
 nd : l.Nodup
 lt : ∀ i ∈ l, i < st.x
theorem lk_mem {α : Type} {s : List (Nat × α)} {d : Nat} {v : α} (h : lk s d = some v) : (d, v) ∈ s := by
 induction s with
 | nil => cases h
 | cons p s ih =>
  obtain ⟨e, u⟩ := p
  rw [lk_cons] at h
  by_cases he : e = d
  ·rw [if_pos he] at h; obtain rfl := Option.some.inj h; subst he; exact List.mem_cons_self
  ·rw [if_neg he] at h; exact List.mem_cons_of_mem _ (ih h)
theorem O.ren_live (ρ : Nat → Nat) (o : O) : (o.ren ρ).live = o.live := by cases o <;> rfl
theorem nm_inj {l : List Nat} (hn : l.Nodup) {i j : Nat} (hi : i < l.length) (hj : j < l.length) (h : nm l i = nm l j) : i = j := by
 unfold nm at h
 rw [List.getElem?_eq_getElem hi, List.getElem?_eq_getElem hj] at h
 have h' : l[i] = l[j] := by simpa using h
 have hp := List.pairwise_iff_getElem.1 hn
 rcases Nat.lt_trichotomy i j with hlt | he | hlt
 ·exact absurd h' (hp i j hi hj hlt)
 ·exact he
 ·exact absurd h'.symm (hp j i hj hi hlt)
theorem Sub.gv {l : List Nat} {st' st : St} (hs : Sub l st' st) {g : Nat → Value} {id : Nat} {v : Value} (h : gvOf st'.h (fun i => g (nm l i)) id = some v) : id < st'.x ∧ gvOf st.h g (nm l id) = some v ∧ ∃ o, lk st'.h id = some o ∧ o.lt st'.x = true ∧ lk st.h (nm l id) = some (o.ren (nm l)) := by
 unfold gvOf at h ⊢
 cases hk : lk st'.h id with
 | none => rw [hk] at h; cases h
 | some o =>
  rw [hk] at h
  obtain ⟨h1, h2, h3⟩ := hs.h _ (lk_mem hk)
  simp only at h1 h2 h3 h
  refine ⟨h1, ?_, o, rfl, h2, h3⟩
  rw [h3]
  simp only [O.ren_live]
  exact h
theorem hole_lt {t : TypeId} {sz x i : Nat} {rows : List (List N)} {hole : Option (Nat × Nat × Nat)} (h : (O.nest t sz rows hole).lt x = true) (hv : ∃ a b : Nat, hole = some (a, b, i)) : (V.ref i).lt x = true := by
 obtain ⟨a, b, rfl⟩ := hv
 exact h
theorem Sub.rep {n : Nat} {cx : Cx} {g : Nat → Value} {st st' : St} {a : Act} {w : World} {l : List Nat} (hs : Sub l st' st) (hx : cx.x ≤ st'.x) (hid : ∀ i, i < cx.x → nm l i = i) (r : Rep n cx g st a w) : Rep n cx (fun i => g (nm l i)) st' a w := by
 have hgv : ∀ id v, gvOf st'.h (fun i => g (nm l i)) id = some v → gvOf st.h g (nm l id) = some v := fun id v h => (hs.gv h).2.1
 have hown : ∀ k, Own st'.h (fun i => g (nm l i)) k → Own st.h g k := fun k ⟨id, v, h1, h2⟩ => ⟨nm l id, v, hgv _ _ h1, h2⟩
 have hrd : ∀ a v, Rd cx.z st.h g w a v → Rd cx.z st'.h (fun i => g (nm l i)) w a v := fun a v h => ⟨h.z, fun ho => h.own (hown _ ho), h.cell⟩
 have hv : ∀ {v : V} {m : Value}, VRep (Rd cx.z st.h g w) (gvOf st.h g) st.x (v.ren (nm l)) m → v.lt st'.x = true → VRep (Rd cx.z st'.h (fun i => g (nm l i)) w) (gvOf st'.h (fun i => g (nm l i))) st'.x v m :=
  fun h hl => (h.unren (gv' := gvOf st'.h (fun i => g (nm l i))) (x' := st'.x) (fun id v _ h => hgv id v h) rfl hl).mono hrd (fun _ _ _ h => h) (Nat.le_refl _)
 refine ⟨⟨r.h.os, r.h.tape, r.h.output, r.h.size, r.h.old, ?_, ?_, ?_, ?_, hx, r.h.apz⟩, r.size, r.defers, ?_⟩
 ·intro id v h
  obtain ⟨h1, h2, o, h3, h4, h5⟩ := hs.gv h
  refine ⟨h1, o, h3, ?_⟩
  obtain ⟨_, o', h6, h7⟩ := r.h.obj _ _ h2
  rw [h5] at h6
  obtain rfl := Option.some.inj h6
  cases o with
  | cells t cs =>
   cases h7 with
   | cells t' cs' b ms e1 e2 e3 e4 =>
    refine .cells t cs b ms e1 (by rw [e2, renL_length]) e3 (fun i c m hc hm => hv (e4 i _ m (by rw [renL_get, hc]; rfl) hm) (ltL_get h4 i c hc))
  | arr t sz xs =>
   cases h7 with
   | arr t' sz' xs' v ms e1 e2 e3 e4 e5 => exact .arr t sz xs _ ms e1 e2 e3 e4 (fun i j d h => let ⟨m, hm, hd⟩ := e5 i j d h; ⟨m, hm, hd.mono hrd⟩)
  | nest t sz rows hole => exact ORep.nest_un (nm l) h7 hrd (fun i m hm hr => hv (v := .ref i) hr (hole_lt h4 hm))
  | map es =>
   cases h7 with
   | map es' r' ms cl e1 e2 e3 e4 => exact .map es _ ms cl e1 e2 (fun i e m h1 h2 => ⟨(e3 i e m h1 h2).1.mono hrd, (e3 i e m h1 h2).2.mono hrd⟩) e4
  | chan cap buf closed =>
   cases h7 with
   | chan cap' buf' cl' r' ms s q e1 e2 e3 => exact .chan cap buf closed _ ms s q e1 e2 (fun i e m h1 h2 => (e3 i e m h1 h2).mono hrd)
  | iter mp n' sn' =>
   cases h7 with
   | iter mp' n2 sn2 r' b sn e1 e2 e3 => exact .iter mp n' sn' _ b sn e1 e2 (hv (v := .ref mp) e3 h4)
  | dead => cases h7
 ·intro id id' v v' k h1 h2 h3 h4
  have e1 := hs.gv h1
  have e2 := hs.gv h2
  exact nm_inj hs.nd (by rw [hs.len]; exact e1.1) (by rw [hs.len]; exact e2.1) (r.h.apart _ _ _ _ _ e1.2.1 e2.2.1 h3 h4)
 ·intro id v k h1 h2
  exact r.h.mine _ _ _ (hgv _ _ h1) h2
 ·intro id v hlt h1
  have := hgv _ _ h1
  rw [hid id hlt] at this
  exact r.h.first _ _ hlt this
 ·intro d v hd
  obtain ⟨h1, h2⟩ := hs.s _ (lk_mem hd)
  exact hv (r.s d _ h2) h1
section
variable {P : Program} {n : Nat} {cx : Cx} {Q Q' : VExit → St → Prop} {st : St}
def Less (cx : Cx) (K : St → Prop) (st : St) : Prop := ∃ l st', Sub l st' st ∧ cx.x ≤ st'.x ∧ (∀ i, i < cx.x → nm l i = i) ∧ K st'
theorem VCode.less {c : Code} (h : Less cx (VCode P n cx c Q) st) : VCode P n cx c Q st := fun g a w r => by
 obtain ⟨l, st', h1, h2, h3, h4⟩ := h
 exact h4 _ a w (h1.rep h2 h3 r)
theorem VCode.loop {c : Code} (I : Nat → St → Prop) (n₀ : Nat) (h₀ : Less cx (I n₀) st) (round : ∀ k st, I k st → VCode P n cx c (VThen (Less cx fun st' => ∃ k', k' < k ∧ I k' st') Q) st) : VCode P n cx (.loop c) Q st := fun g a w r => by
 refine wp_loop_ghost (fun k a w => ∃ g st, Rep n cx g st a w ∧ I k st) n₀ ?_ ?_
 ·obtain ⟨l, st', h1, h2, h3, h4⟩ := h₀
  exact ⟨_, st', h1.rep h2 h3 r, h4⟩
 ·rintro k a w ⟨g, st, r, hI⟩
  refine Go.wp_mono (round k st hI g a w r) ?_
  intro e a' w' hq
  cases e with
  | normal =>
   obtain ⟨g', st', r', l, st'', h1, h2, h3, k', hk, hI'⟩ := hq
   exact ⟨k', hk, _, st'', h1.rep h2 h3 r', hI'⟩
  | exit id => exact hq
  | ret => exact hq
  | panic c => exact hq
  | goto l => exact hq
  | outgrown => exact hq
end
def opost (K : St → Prop) (E : List PanicEntry → St → Prop) : VExit → St → Prop
 | .normal, st => K st
 | .panic c, st => E c st
 | _, _ => False
def dstOk (n : Nat) (ops : Array Oper) : Bool := ops.toList.all fun o => match o.dst with
 | some d => Nat.blt d n
 | none => true
theorem dstOk_lt {n : Nat} {ops : Array Oper} (h : dstOk n ops = true) (j e : Nat) (he : (ops[j]?).bind (·.dst) = some e) : e < n := by
 obtain ⟨o, ho, hd⟩ := Option.bind_eq_some_iff.1 he
 have hm : o ∈ ops.toList := by
  have := Array.mem_of_getElem? ho
  exact Array.mem_toList_iff.2 this
 have := List.all_eq_true.1 h o hm
 rw [hd] at this
 simpa using this
structure Touch (m : List Nat) (h : Heap) (g : Nat → Value) (x : Nat) (w : World) (h' : Heap) (g' : Nat → Value) (w' : World) : Prop where
 keep : ∀ k, k < w.heap.size → (∀ id ∈ m, ∀ v, gvOf h g id = some v → ¬ Blk v k) → w'.heap[k]? = w.heap[k]?
 new : ∀ id v k, x ≤ id → gvOf h' g' id = some v → Blk v k → w.heap.size ≤ k ∨ ∃ id' ∈ m, ∃ v', gvOf h g id' = some v' ∧ Blk v' k
def VOp (P : Program) (n : Nat) (cx : Cx) (m : List Nat) (o : Oper) (K : V → Heap → Nat → Prop) (E : List PanicEntry → St → Prop) (st : St) : Prop :=
 ∀ g a w, Rep n cx g st a w → ∀ (Kc : Act → World → Prop) (Q : Exit → Act → World → Prop),
  (∀ g' v mv h' x' w', K v h' x' → HRep cx g' h' x' w' → VRep (Rd cx.z h' g' w') (gvOf h' g') x' v mv → Next st.h g st.x w h' g' x' w' → Touch m st.h g st.x w h' g' w' → Kc (a.put o.dst mv) w') →
  (∀ c g' st' w', E c st' → HRep cx g' st'.h st'.x w' → Q (.panic c) a w') → o.wp P a w Kc Q
def VPure (P : Program) (n : Nat) (cx : Cx) (o : Oper) (st : St) (v : V) : Prop :=
 ∀ g a w, Rep n cx g st a w → ∃ mv, VRep (Rd cx.z st.h g w) (gvOf st.h g) st.x v mv ∧ ∀ w', (execOp a.eval o).run P w' = .ok (.value mv) w'
def VLoad (P : Program) (n : Nat) (cx : Cx) (m : List Nat) (o : Oper) (st : St) (v : V) : Prop :=
 ∀ g a w, Rep n cx g st a w → ∃ mv, VRep (Rd cx.z st.h g w) (gvOf st.h g) st.x v mv ∧
  ∀ w' : World, (∀ k, k < w.heap.size → (∀ id ∈ m, ∀ v, gvOf st.h g id = some v → ¬ Blk v k) → w'.heap[k]? = w.heap[k]?) → (execOp a.eval o).run P w' = .ok (.value mv) w'
def putS (d : Option Nat) (v : V) (s : List (Nat × V)) : List (Nat × V) := match d with
 | some d => (d, v) :: s
 | none => s
def wantedV (ops : Array Oper) (o : Oper) (s : List (Nat × V)) : Option Bool := match o.guard with
 | none => some true
 | some (j, b) => match (ops[j]?).bind (·.dst) with
  | some e => match lk s e with
   | some (.val (.bool c)) => some (c == b)
   | some (.tup _) => some false
   | _ => none
  | none => none
theorem wantedV_is {n : Nat} {cx : Cx} {g : Nat → Value} {st : St} {a : Act} {w : World} {ops : Array Oper} {o : Oper} {b : Bool} (r : Rep n cx g st a w) (hn : dstOk n ops = true) (h : wantedV ops o st.s = some b) : Region.wanted o (yielded ops a.tmps) = b := by
 unfold wantedV at h
 unfold Region.wanted
 cases hg : o.guard with
 | none => rw [hg] at h; exact Option.some.inj h
 | some p =>
  obtain ⟨j, c⟩ := p
  rw [hg] at h
  simp only at h ⊢
  cases he : (ops[j]?).bind (·.dst) with
  | none => rw [he] at h; cases h
  | some e =>
   rw [he] at h
   simp only at h
   cases hl : lk st.s e with
   | none => rw [hl] at h; cases h
   | some v =>
    rw [hl] at h
    have hv := r.s e v hl
    have hlt := dstOk_lt hn j e he
    have hget : a.tmps[e]? = some (a.tmps.getD e undef) := by
     rw [Array.getD_eq_getD_getElem?, Array.getElem?_eq_getElem (by rw [r.size]; exact hlt)]; rfl
    by_cases htup : ∃ cs, v = .tup cs
    ·obtain ⟨cs, rfl⟩ := htup
     obtain rfl : false = b := Option.some.inj h
     unfold yielded
     rw [he]
     simp only [Option.bind_some, hget]
     generalize a.tmps.getD e undef = mm at hv
     cases hv
     rfl
    obtain ⟨c', rfl, hb⟩ : ∃ c', v = .val (.bool c') ∧ (c' == c) = b := by
     cases v with
     | val v => cases v with
      | bool c' => exact ⟨c', rfl, Option.some.inj h⟩
      | _ => cases h
     | tup cs => exact absurd ⟨cs, rfl⟩ htup
     | _ => cases h
    have hm := hv.val_inv
    have ht : a.tmps[e]? = some (.bool c') := by rw [hget, hm]
    unfold yielded
    rw [he]
    simp only [Option.bind_some, ht]
    rw [← hb]
    cases c' <;> cases c <;> rfl
structure Began where
 g : Nat → Value
 h : Heap
 x : Nat
 w : World
def SB (m : List Nat) (b : Began) (w' : World) : Prop := b.w.heap.size ≤ w'.heap.size ∧ ∀ k, k < b.w.heap.size → (∀ id ∈ m, ∀ v, gvOf b.h b.g id = some v → ¬ Blk v k) → w'.heap[k]? = b.w.heap[k]?
structure Link (m : List Nat) (b : Began) (g : Nat → Value) (h : Heap) (x : Nat) (w : World) : Prop where
 s : SB m b w
 x : b.x ≤ x
 m : ∀ id v k, (id ∈ m ∨ b.x ≤ id) → gvOf h g id = some v → Blk v k → b.w.heap.size ≤ k ∨ ∃ id' ∈ m, ∃ v', gvOf b.h b.g id' = some v' ∧ Blk v' k
def listedAt (i k : Nat) : Array Bool := (List.replicate i true ++ List.replicate k false).toArray
def takeOk (ops : Array Oper) (i : Nat) : Bool := Region.noSelect ops && Region.free .any ops (listedAt i (ops.size - i)) i && (Region.ready .any ops (listedAt i (ops.size - i))).contains i
def forcedOk (ops : Array Oper) (i : Nat) : Bool := match Region.ready .any ops (listedAt i (ops.size - i)) with
 | [j] => Nat.beq j i
 | _ => false
def okL (dr : Nat) (ops : Array Oper) (i : Nat) : Bool := match dr with
 | 0 => true
 | 1 => takeOk ops i
 | _ => forcedOk ops i
def okP (dr : Nat) (ops : Array Oper) (i : Nat) : Bool := match dr with
 | 0 => true
 | _ => takeOk ops i
def okM (dr : Nat) (ops : Array Oper) (i : Nat) (m m' : List Nat) : Bool := match dr with
 | 0 => true
 | _ => forcedOk ops i && m'.all fun k => m.contains k
def nxt (dr : Nat) : Nat := match dr with
 | 0 => 0
 | _ => 2
def VOps (P : Program) (n : Nat) (cx : Cx) (dr : Nat) (m : List Nat) (ops : Array Oper) (K : St → Prop) (E : List PanicEntry → St → Prop) (i : Nat) (rest : List Oper) (st : St) : Prop :=
 dstOk n ops = true → (∀ j, rest[j]? = ops[i + j]?) → ∀ g a w, Rep n cx g st a w → match dr with
  | 0 => Ops P ops (lift n cx (opost K E)) (List.range' i rest.length) a w
  | 1 => wpAnyH P .any ops (lift n cx (opost K E)) (SB m ⟨g, st.h, st.x, w⟩) rest.length (listedAt i rest.length) a w
  | _ => ∀ b : Began, Link m b g st.h st.x w → wpAnyH P .any ops (lift n cx (opost K E)) (SB m b) rest.length (listedAt i rest.length) a w
theorem listedAt_set (i k : Nat) : (listedAt i (k + 1)).setIfInBounds i true = listedAt (i + 1) k := by
 unfold listedAt
 apply Array.ext_getElem?
 intro j
 rw [Array.getElem?_setIfInBounds]
 simp only [List.getElem?_toArray, List.size_toArray, List.length_append, List.length_replicate, List.getElem?_append, List.getElem?_replicate]
 grind
theorem forced_ready {ops : Array Oper} {i : Nat} (h : forcedOk ops i = true) : Region.ready .any ops (listedAt i (ops.size - i)) = [i] := by
 unfold forcedOk at h
 split at h
 ·rename_i j hj; rw [hj, Nat.eq_of_beq_eq_true h]
 ·cases h
theorem not_ready {ops : Array Oper} {i : Nat} (h : ops.size ≤ i) : Region.ready .any ops (listedAt i 0) = [] := by
 refine List.eq_nil_iff_forall_not_mem.2 (fun j hj => ?_)
 obtain ⟨h1, o, h2, _⟩ := mem_ready.1 hj
 have hlt := (Array.getElem?_eq_some_iff.1 h2).1
 simp [listedAt, Array.getD_eq_getD_getElem?, List.getElem?_replicate, show j < i from by omega] at h1
section
variable {n : Nat} {cx : Cx} {g : Nat → Value} {st : St} {a : Act} {w w' : World}
theorem Rep.world (r : Rep n cx g st a w) (hh : w'.heap = w.heap) (os : w'.os = w.os) (tape : w'.tape = w.tape) (out : w'.output = w.output) : Rep n cx g st a w' := by
 have hrd : ∀ a v, Rd cx.z st.h g w a v → Rd cx.z st.h g w' a v := fun a v h => ⟨h.z, h.own, (World.cell?_of_block (by rw [hh])).trans h.cell⟩
 have hv : ∀ {v : V} {m : Value}, VRep (Rd cx.z st.h g w) (gvOf st.h g) st.x v m → VRep (Rd cx.z st.h g w') (gvOf st.h g) st.x v m := fun h => h.mono hrd (fun _ _ _ h => h) (Nat.le_refl _)
 refine ⟨⟨os.trans r.h.os, tape.trans r.h.tape, out.trans r.h.output, by rw [hh]; exact r.h.size, fun k h1 h2 => by rw [hh]; exact r.h.old k h1 h2, ?_, r.h.apart, fun id v k h1 h2 => by rw [hh]; exact r.h.mine id v k h1 h2, r.h.first, r.h.low, r.h.apz⟩, r.size, r.defers, fun d v h => hv (r.s d v h)⟩
 intro id v h
 obtain ⟨h1, o, h2, h3⟩ := r.h.obj id v h
 refine ⟨h1, o, h2, ?_⟩
 cases h3 with
 | cells t cs b ms e1 e2 e3 e4 => exact .cells t cs b ms (by rw [hh]; exact e1) e2 e3 (fun i c m hc hm => hv (e4 i c m hc hm))
 | arr t sz xs v ms e1 e2 e3 e4 e5 => exact .arr t sz xs v ms (Go.Proofs.YtfjfbapiheehaaaW.PrintWords.own_move e1 (fun k hk => by rw [hh])) e2 e3 e4 (fun i j d h => let ⟨m, hm, hd⟩ := e5 i j d h; ⟨m, hm, hd.mono hrd⟩)
 | nest t sz rows hole v ms us e1 e2 e3 e4 e5 e6 e7 => exact ORep.nest_mv (.nest t sz rows hole v ms us e1 e2 e3 e4 e5 e6 e7) hrd (fun _ _ h => hv h) (fun k hk => by rw [hh])
 | map es r ms cl e1 e2 e3 e4 => exact .map es r ms cl (by rw [hh]; exact e1) e2 (fun i e m h1 h2 => ⟨(e3 i e m h1 h2).1.mono hrd, (e3 i e m h1 h2).2.mono hrd⟩) e4
 | chan cap buf cl r ms s q e1 e2 e3 => exact .chan cap buf cl r ms s q (by rw [hh]; exact e1) e2 (fun i e m h1 h2 => (e3 i e m h1 h2).mono hrd)
 | iter mp n' sn' r b sn e1 e2 e3 => exact .iter mp n' sn' r b sn (by rw [hh]; exact e1) e2 (hv e3)
theorem Link.start {m : List Nat} (r : Rep n cx g st a w) : Link m ⟨g, st.h, st.x, w⟩ g st.h st.x w := by
 refine ⟨⟨Nat.le_refl _, fun _ _ _ => rfl⟩, Nat.le_refl _, fun id v k h h1 h2 => ?_⟩
 rcases h with h | h
 ·exact .inr ⟨id, h, v, h1, h2⟩
 ·have h3 : st.x ≤ id := h
  exact absurd (r.h.obj _ _ h1).1 (by omega)
theorem Link.step {m m' : List Nat} {b : Began} {h h' : Heap} {g' : Nat → Value} {x x' : Nat} (hl : Link m b g h x w) (hm : ∀ k ∈ m', k ∈ m) (nx : Next h g x w h' g' x' w') (t : Touch m' h g x w h' g' w') : Link m b g' h' x' w' := by
 refine ⟨⟨Nat.le_trans hl.s.1 nx.m.size, fun k hk hn => ?_⟩, Nat.le_trans hl.x nx.x, fun id v k hi h1 h2 => ?_⟩
 ·refine (t.keep k (Nat.lt_of_lt_of_le hk hl.s.1) (fun id hid v h1 h2 => ?_)).trans (hl.s.2 k hk hn)
  rcases hl.m id v k (.inl (hm id hid)) h1 h2 with h3 | ⟨id', h3, v', h4, h5⟩
  ·omega
  ·exact hn id' h3 v' h4 h5
 ·by_cases hx : id < x
  ·exact hl.m id v k hi (nx.g id v hx h1) h2
  ·rcases t.new id v k (by omega) h1 h2 with h3 | ⟨id', h3, v', h4, h5⟩
   ·exact .inl (Nat.le_trans hl.s.1 h3)
   ·exact hl.m id' v' k (.inl (hm _ h3)) h4 h5
end
section
variable {P : Program} {n : Nat} {cx : Cx} {Q Q' : VExit → St → Prop} {st : St} {ops : Array Oper} {K K' : St → Prop} {E : List PanicEntry → St → Prop} {i : Nat} {o : Oper} {rest : List Oper}
class Mixed (P : Program) : Prop where
 h : P.follows .mixedOrders = true
theorem opost_lift {e : Exit} {a : Act} {w : World} (hq : lift n cx (opost (Q .normal) fun c => Q (.panic c)) e a w) : lift n cx Q e a w := by
 refine lift_mono (Q := opost (Q .normal) fun c => Q (.panic c)) ?_ e a w hq
 intro e st hq
 cases e <;> first | exact hq | exact hq.elim
theorem VCode.region {id : Nat} {l : List Oper} (hd : dstOk n l.toArray = true) (h : VOps P n cx 0 [] l.toArray (Q .normal) (fun c => Q (.panic c)) 0 l st) : VCode P n cx (.region id l.toArray false) Q st := fun g a w r => by
 have h1 := h hd (fun j => by simp) g a w r
 refine Go.wp_mono (region_of (by rw [List.range_eq_range', List.size_toArray]; exact h1)) ?_
 intro e a' w' hq
 exact opost_lift hq
theorem VCode.draw [hm : Mixed P] {id : Nat} {l : List Oper} (m : List Nat) (hd : dstOk n l.toArray = true) (h : VOps P n cx 1 m l.toArray (Q .normal) (fun c => Q (.panic c)) 0 l st) : VCode P n cx (.region id l.toArray true) Q st := fun g a w r => by
 have h1 := h hd (fun j => by simp) g a { w with drawn := w.drawn + 1 } (r.world rfl rfl rfl rfl)
 refine Go.wp_mono (wp_region_held (Q := lift n cx (opost (Q .normal) fun c => Q (.panic c))) hm.h (S := SB m ⟨g, st.h, st.x, { w with drawn := w.drawn + 1 }⟩) ?_) ?_
 ·have e : listedAt 0 l.length = Array.replicate l.toArray.size false := by simp [listedAt]
  rw [← e, List.size_toArray]
  exact h1
 ·intro e a' w' hq
  exact opost_lift hq
theorem VOps.len {dr : Nat} {l : List Oper} (hr : ∀ j, (o :: l)[j]? = ops[i + j]?) : ops.size - i = l.length + 1 ∧ i < ops.size := by
 have h1 := hr l.length
 have h2 := hr (l.length + 1)
 rw [List.getElem?_eq_none (by simp)] at h2
 rw [List.getElem?_eq_getElem (by simp)] at h1
 have h3 := (Array.getElem?_eq_some_iff.1 h1.symm).1
 have h4 := Array.getElem?_eq_none_iff.1 h2.symm
 omega
section
variable {dr : Nat} {m : List Nat}
theorem VOps.nil (h : K st) : VOps P n cx dr m ops K E i [] st := fun _ hr g a w r => by
 have hs : ops.size ≤ i := by
  have := hr 0
  simpa using this
 match dr with
 | 0 => exact Ops.of ⟨g, st, r, h⟩
 | 1 => exact wpAnyH_done (not_ready hs) ⟨g, st, r, h⟩ _
 | _ + 2 => intro b hb; exact wpAnyH_done (not_ready hs) ⟨g, st, r, h⟩ _
theorem VOps.tail (hr : ∀ j, (o :: rest)[j]? = ops[i + j]?) : ops[i]? = some o ∧ ∀ j, rest[j]? = ops[i + 1 + j]? :=
 ⟨by simpa using (hr 0).symm, fun j => by have := hr (j + 1); rw [show i + 1 + j = i + (j + 1) from by omega]; simpa using this⟩
theorem any_op {b : Began} {g : Nat → Value} {a : Act} {w : World} {m' : List Nat} {Ko : V → Heap → Nat → Prop} (hf : forcedOk ops i = true) (hm : ∀ k ∈ m', k ∈ m) (hw : wantedV ops o st.s = some true) (h1 : VOp P n cx m' o Ko E st) (h2 : ∀ v h' x', Ko v h' x' → VOps P n cx 2 m ops K E (i + 1) rest ⟨putS o.dst v st.s, h', x'⟩)
  (hn : dstOk n ops = true) (hr : ∀ j, (o :: rest)[j]? = ops[i + j]?) (r : Rep n cx g st a w) (hb : Link m b g st.h st.x w) : wpAnyH P .any ops (lift n cx (opost K E)) (SB m b) (o :: rest).length (listedAt i (o :: rest).length) a w := by
 obtain ⟨ho, hr'⟩ := VOps.tail hr
 obtain ⟨hl, _⟩ := VOps.len (dr := 0) hr
 have hwant := wantedV_is r hn hw
 have hready := forced_ready hf
 rw [hl] at hready
 rw [List.length_cons]
 refine wpAnyH_all hready (by simp) (fun j hj => ?_)
 obtain rfl := List.mem_singleton.1 hj
 rw [listedAt_set]
 unfold wpOp
 simp only [ho, hwant, if_true]
 left
 refine h1 g a w r _ _ ?_ ?_
 ·intro g' v mv h' x' w' hk hh hv hx ht
  have hb' := hb.step hm hx ht
  refine ⟨hb'.s, ?_⟩
  refine h2 v h' x' hk hn hr' g' _ w' ?_ b hb'
  cases hd : o.dst with
  | some d => exact r.put (dstOk_lt hn j d (by rw [ho]; exact hd)) hx hh hv
  | none => exact r.skip hx hh
 ·intro c g' st' w' he hh
  exact ⟨r.defers, g', st', hh, he⟩
theorem VOps.op {m' : List Nat} {Ko : V → Heap → Nat → Prop} (hw : wantedV ops o st.s = some true) (hs : okM dr ops i m m' = true) (h1 : VOp P n cx m' o Ko E st) (h2 : ∀ v h' x', Ko v h' x' → VOps P n cx (nxt dr) m ops K E (i + 1) rest ⟨putS o.dst v st.s, h', x'⟩) : VOps P n cx dr m ops K E i (o :: rest) st := fun hn hr g a w r => by
 have hmm : ∀ {b : Bool}, (b && m'.all fun k => m.contains k) = true → b = true ∧ ∀ k ∈ m', k ∈ m := fun h => by
  simp only [Bool.and_eq_true, List.all_eq_true, List.contains_iff_mem] at h; exact h
 match dr, hs, h2 with
 | 0, hs, h2 =>
  obtain ⟨ho, hr'⟩ := VOps.tail hr
  have hwant := wantedV_is r hn hw
  have hf : List.range' i (o :: rest).length = [i] ++ List.range' (i + 1) rest.length := by rw [List.length_cons, List.range'_succ]; rfl
  show Ops _ _ _ _ _ _
  rw [hf]
  refine Ops.front _ _ a w ?_
  simp only [wpOps, ho, hwant, if_true]
  left
  refine h1 g a w r _ _ ?_ ?_
  ·intro g' v mv h' x' w' hk hh hv hx ht
   refine h2 v h' x' hk hn hr' g' _ w' ?_
   cases hd : o.dst with
   | some d => exact r.put (dstOk_lt hn i d (by rw [ho]; exact hd)) hx hh hv
   | none => exact r.skip hx hh
  ·intro c g' st' w' he hh
   exact ⟨r.defers, g', st', hh, he⟩
 | 1, hs, h2 => exact any_op (hmm hs).1 (hmm hs).2 hw h1 h2 hn hr r (.start r)
 | _ + 2, hs, h2 => intro b hb; exact any_op (hmm hs).1 (hmm hs).2 hw h1 h2 hn hr r hb
theorem VLoad.op {m : List Nat} {v : V} (h : VLoad P n cx m o st v) : VOp P n cx [] o (fun v' h' x' => v' = v ∧ h' = st.h ∧ x' = st.x) E st := fun g a w r Kc Q hk _ => by
 obtain ⟨mv, hv, hrun⟩ := h g a w r
 unfold Oper.wp
 rw [hrun w (fun _ _ _ => rfl), Oper.upon_value]
 refine hk g v mv st.h st.x w ⟨rfl, rfl, rfl⟩ r.h hv (Next.refl _ _ _ _) ⟨fun _ _ _ => rfl, fun id v k hx hv hb => ?_⟩
 exact absurd (r.h.obj _ _ hv).1 (by omega)
theorem VPure.load {m : List Nat} {v : V} (h : VPure P n cx o st v) : VLoad P n cx m o st v := fun g a w r => by
 obtain ⟨mv, hv, hrun⟩ := h g a w r
 exact ⟨mv, hv, fun w' _ => hrun w'⟩
theorem panic_put {n : Nat} {cx : Cx} {Q : VExit → St → Prop} (d : Option Nat) (v : Value) : ∀ c a w, lift n cx Q (.panic c) (Act.put a d v) w → lift n cx Q (.panic c) a w := fun c a w h => by
 cases d <;> exact h
theorem any_take {S : World → Prop} {a : Act} {w : World} {mv : Value} (hf : takeOk ops i = true) (hr : ∀ j, (o :: rest)[j]? = ops[i + j]?) (hy : YieldsIf P ops S o mv a) (hS : S w)
  (h : wpAnyH P .any ops (lift n cx (opost K E)) S rest.length (listedAt (i + 1) rest.length) (a.put o.dst mv) w) : wpAnyH P .any ops (lift n cx (opost K E)) S (o :: rest).length (listedAt i (o :: rest).length) a w := by
 obtain ⟨ho, hr'⟩ := VOps.tail hr
 obtain ⟨hl, _⟩ := VOps.len (dr := 0) hr
 unfold takeOk at hf
 rw [hl] at hf
 simp only [Bool.and_eq_true] at hf
 rw [List.length_cons]
 refine wpAnyH_take (v := mv) ho hf.1.1 hf.1.2 hf.2 (panic_put _ _) hy hS ?_
 rw [listedAt_set]; exact h
theorem VOps.val {v : V} (hw : wantedV ops o st.s = some true) (hs : okL dr ops i = true) (h1 : VLoad P n cx m o st v) (h2 : VOps P n cx dr m ops K E (i + 1) rest ⟨putS o.dst v st.s, st.h, st.x⟩) : VOps P n cx dr m ops K E i (o :: rest) st := by
 match dr, hs, h2 with
 | 0, hs, h2 => exact VOps.op (m' := []) hw rfl h1.op (by rintro v' h' x' ⟨rfl, rfl, rfl⟩; exact h2)
 | 1, hs, h2 =>
  intro hn hr g a w r
  obtain ⟨ho, hr'⟩ := VOps.tail hr
  obtain ⟨mv, hv, hrun⟩ := h1 g a w r
  refine any_take hs hr (.inl ⟨wantedV_is r hn hw, fun w' hS => hrun w' hS.2⟩) ⟨Nat.le_refl _, fun _ _ _ => rfl⟩ ?_
  refine h2 hn hr' g _ w ?_
  cases hd : o.dst with
  | some d => exact r.put (dstOk_lt hn i d (by rw [ho]; exact hd)) (Next.refl _ _ _ _) r.h hv
  | none => exact r.skip (Next.refl _ _ _ _) r.h
 | k + 2, hs, h2 => exact VOps.op (m' := []) hw (by show (forcedOk ops i && _) = true; rw [show forcedOk ops i = true from hs]; rfl) h1.op (by rintro v' h' x' ⟨rfl, rfl, rfl⟩; exact fun a b c d e f g h => h2 a b c d e f g h)
theorem VOps.pval {v : V} (hw : wantedV ops o st.s = some true) (hs : okP dr ops i = true) (h1 : VPure P n cx o st v) (h2 : VOps P n cx dr m ops K E (i + 1) rest ⟨putS o.dst v st.s, st.h, st.x⟩) : VOps P n cx dr m ops K E i (o :: rest) st := by
 match dr, hs, h2 with
 | 0, hs, h2 => exact VOps.val hw rfl h1.load h2
 | 1, hs, h2 => exact VOps.val hw hs h1.load h2
 | k + 2, hs, h2 =>
  intro hn hr g a w r b hb
  obtain ⟨ho, hr'⟩ := VOps.tail hr
  obtain ⟨mv, hv, hrun⟩ := h1 g a w r
  refine any_take hs hr (.inl ⟨wantedV_is r hn hw, fun w' _ => hrun w'⟩) hb.s ?_
  refine h2 hn hr' g _ w ?_ b hb
  cases hd : o.dst with
  | some d => exact r.put (dstOk_lt hn i d (by rw [ho]; exact hd)) (Next.refl _ _ _ _) r.h hv
  | none => exact r.skip (Next.refl _ _ _ _) r.h
theorem VOps.pass (hw : wantedV ops o st.s = some false) (hs : okP dr ops i = true) {d : Nat} (hd : o.dst = some d) (h2 : VOps P n cx dr m ops K E (i + 1) rest ⟨(d, .tup []) :: st.s, st.h, st.x⟩) : VOps P n cx dr m ops K E i (o :: rest) st := fun hn hr g a w r => by
 obtain ⟨ho, hr'⟩ := VOps.tail hr
 have hwant := wantedV_is r hn hw
 have hdn : d < n := dstOk_lt hn i d (by rw [ho]; exact hd)
 have hrep : Rep n cx g ⟨(d, .tup []) :: st.s, st.h, st.x⟩ (a.put o.dst undef) w := by rw [hd]; exact r.put hdn (Next.refl _ _ _ _) r.h (.tup [] #[] rfl (fun i c m hc hm => by cases hc))
 match dr, hs, h2 with
 | 0, hs, h2 =>
  have hf : List.range' i (o :: rest).length = i :: List.range' (i + 1) rest.length := by rw [List.length_cons, List.range'_succ]
  show Ops _ _ _ _ _ _
  rw [hf]
  exact Ops.pass ho hwant (h2 hn hr' g _ w hrep)
 | 1, hs, h2 => exact any_take hs hr (.inr ⟨hwant, rfl⟩) ⟨Nat.le_refl _, fun _ _ _ => rfl⟩ (h2 hn hr' g _ w hrep)
 | k + 2, hs, h2 => intro b hb; exact any_take hs hr (.inr ⟨hwant, rfl⟩) hb.s (h2 hn hr' g _ w hrep b hb)
end
end
end Go.Proofs.Ytfjfbapiheehaaa.V
namespace Go.Proofs.Ytfjfbapiheehaaa.V
open Go Go.RowKit Go.ChangeShapes
section
variable {P : Program} {n : Nat} {cx : Cx} {st : St} {o : Oper}
theorem VPure.move {x : Operand} {v : V} (ho : o.op = .move x) (h : ev st.s x = some v) : VPure P n cx o st v := fun g a w r => ⟨a.eval x, ev_rep r h, fun w' => by unfold execOp; rw [ho]; rfl⟩
theorem VPure.assign {x : Operand} {v : V} (ho : o.op = .assign x) (h : ev st.s x = some v) : VPure P n cx o st v := fun g a w r => ⟨a.eval x, ev_rep r h, fun w' => by unfold execOp; rw [ho]; rfl⟩
theorem VPure.pick_t {c x y : Operand} {v : V} (ho : o.op = .pick c x y) (hc : ev st.s c = some (.val (.bool true))) (h : ev st.s x = some v) : VPure P n cx o st v := fun g a w r => ⟨a.eval x, ev_rep r h, fun w' => by
 have hv := (ev_rep r hc).val_inv
 unfold execOp; rw [ho]; simp [hv, asBool]⟩
theorem VPure.pick_f {c x y : Operand} {v : V} (ho : o.op = .pick c x y) (hc : ev st.s c = some (.val (.bool false))) (h : ev st.s y = some v) : VPure P n cx o st v := fun g a w r => ⟨a.eval y, ev_rep r h, fun w' => by
 have hv := (ev_rep r hc).val_inv
 unfold execOp; rw [ho]; simp [hv, asBool]⟩
theorem VPure.bin {op : BinOp} {t t' : TypeId} {x y : Operand} {u v z : Value} (ho : o.op = .binOp op t x y t') (hx : ev st.s x = some (.val u)) (hy : ev st.s y = some (.val v))
  (hr : ∀ w, (eqGuard op t x y u v >>= fun _ => binOp op t u v).run P w = .ok z w) (hz : z.oneCell' = true := by rfl) : VPure P n cx o st (.val z) := fun g a w r => ⟨z, .val z hz, fun w' => by
 have h1 := (ev_rep r hx).val_inv
 have h2 := (ev_rep r hy).val_inv
 unfold execOp; rw [ho]; simp only [h1, h2]
 have := hr w'
 simp only [Sem.run_bind] at this ⊢
 generalize (eqGuard op t x y u v).run P w' = q at this ⊢
 cases q with
 | ok q w2 =>
  simp only [Result.andThen] at this ⊢
  rw [this]; rfl
 | halt q w2 => simp [Result.andThen] at this⟩
theorem bin_int {op : BinOp} {t : TypeId} {x y : Operand} {k : IntKind} {a b : Int} {z : Value} (h : ∀ w, (binOp op t (.int k a) (.int k b)).run P w = .ok z w) (w : World) : (eqGuard op t x y (.int k a) (.int k b) >>= fun _ => binOp op t (.int k a) (.int k b)).run P w = .ok z w := by
 rw [Sem.run_bind]
 have : (eqGuard op t x y (.int k a) (.int k b)).run P w = .ok () w := by unfold eqGuard; cases op <;> rfl
 rw [this]
 exact h w
section
variable {t t' : TypeId} {x y : Operand} {k : IntKind} {a b : Int}
theorem VPure.add (ho : o.op = .binOp .add t x y t') (hx : ev st.s x = some (.val (.int .i64 a))) (hy : ev st.s y = some (.val (.int .i64 b))) : VPure P n cx o st (.val (.int .i64 (wrap64 (a + b)))) := .bin ho hx hy (bin_int fun w => by
 rw [← IntWalk.i64_left]; rfl)
theorem VPure.sub (ho : o.op = .binOp .sub t x y t') (hx : ev st.s x = some (.val (.int .i64 a))) (hy : ev st.s y = some (.val (.int .i64 b))) : VPure P n cx o st (.val (.int .i64 (wrap64 (a - b)))) := .bin ho hx hy (bin_int fun w => by
 rw [← IntWalk.i64_left]; rfl)
theorem VPure.lss (ho : o.op = .binOp .lss t x y t') (hx : ev st.s x = some (.val (.int k a))) (hy : ev st.s y = some (.val (.int k b))) : VPure P n cx o st (.val (.bool (decide (a < b)))) := .bin ho hx hy (bin_int fun w => by cases k <;> rfl)
theorem VPure.leq (ho : o.op = .binOp .leq t x y t') (hx : ev st.s x = some (.val (.int k a))) (hy : ev st.s y = some (.val (.int k b))) : VPure P n cx o st (.val (.bool (decide (a ≤ b)))) := .bin ho hx hy (bin_int fun w => by cases k <;> rfl)
theorem VPure.gtr (ho : o.op = .binOp .gtr t x y t') (hx : ev st.s x = some (.val (.int k a))) (hy : ev st.s y = some (.val (.int k b))) : VPure P n cx o st (.val (.bool (decide (b < a)))) := .bin ho hx hy (bin_int fun w => by cases k <;> rfl)
theorem VPure.geq (ho : o.op = .binOp .geq t x y t') (hx : ev st.s x = some (.val (.int k a))) (hy : ev st.s y = some (.val (.int k b))) : VPure P n cx o st (.val (.bool (decide (b ≤ a)))) := .bin ho hx hy (bin_int fun w => by cases k <;> rfl)
theorem VPure.eqi (ho : o.op = .binOp .eql t x y t') (hx : ev st.s x = some (.val (.int k a))) (hy : ev st.s y = some (.val (.int k b))) : VPure P n cx o st (.val (.bool (decide (a = b)))) := .bin ho hx hy (bin_int fun w => by
 have : (a == b) = decide (a = b) := by rw [Bool.eq_iff_iff]; simp
 rw [← this]; cases k <;> rfl)
theorem VPure.nei (ho : o.op = .binOp .neq t x y t') (hx : ev st.s x = some (.val (.int k a))) (hy : ev st.s y = some (.val (.int k b))) : VPure P n cx o st (.val (.bool (!decide (a = b)))) := .bin ho hx hy (bin_int fun w => by
 have : (a != b) = !decide (a = b) := by rw [Bool.eq_iff_iff]; simp
 rw [← this]; cases k <;> rfl)
theorem str_eq (s u : ByteArray) : (s.toList == u.toList) = decide (s = u) := by
 rw [Bool.eq_iff_iff]
 simp only [beq_iff_eq, decide_eq_true_eq]
 constructor
 ·intro h
  rw [ByteArray.toList_eq, ByteArray.toList_eq] at h
  cases s; cases u
  simpa using h
 ·rintro rfl; rfl
theorem VPure.eqs {s u : ByteArray} (ho : o.op = .binOp .eql t x y t') (hx : ev st.s x = some (.val (.string s))) (hy : ev st.s y = some (.val (.string u))) : VPure P n cx o st (.val (.bool (decide (s = u)))) := .bin ho hx hy (fun w => by
 rw [← str_eq]; rfl)
theorem VPure.nes {s u : ByteArray} (ho : o.op = .binOp .neq t x y t') (hx : ev st.s x = some (.val (.string s))) (hy : ev st.s y = some (.val (.string u))) : VPure P n cx o st (.val (.bool (!decide (s = u)))) := .bin ho hx hy (fun w => by
 rw [← str_eq]; rfl)
theorem equal_bool {t : TypeId} {p q : Bool} (hu : P.underlying t = some .bool) (w : World) : (Op.equal t (.bool p) (.bool q)).run P w = .ok (p == q) w := by
 show (Op.equalIn (9999 + 1) t (.bool p) (.bool q)).run P w = _
 rw [Op.equalIn, Sem.run_bind, run_underlying hu]
 rfl
theorem VPure.neb {p q : Bool} (hu : P.underlying t = some .bool) (ho : o.op = .binOp .neq t x y t') (hx : ev st.s x = some (.val (.bool p))) (hy : ev st.s y = some (.val (.bool q))) : VPure P n cx o st (.val (.bool (!(p == q)))) := .bin ho hx hy (fun w => by
 show (Op.equal t (.bool p) (.bool q) >>= _).run P w = _
 rw [Sem.run_bind, equal_bool hu]; rfl)
end
theorem VPure.not {t : TypeId} {x : Operand} {b : Bool} (ho : o.op = .unOp .not t x) (hx : ev st.s x = some (.val (.bool b))) : VPure P n cx o st (.val (.bool (!b))) := fun g a w r => ⟨_, .val _ rfl, fun w' => by
 have h1 := (ev_rep r hx).val_inv
 unfold execOp; rw [ho]; simp [h1, Op.unary]⟩
theorem VPure.conv {t t' : TypeId} {x : Operand} {k k' : IntKind} {b : Int} {u : TypeDesc} (hu : P.underlying t = some u) (hu' : P.underlying t' = some (.int k')) (ho : o.op = .convert t t' x) (hx : ev st.s x = some (.val (.int k b))) : VPure P n cx o st (.val (.int k' (k'.wrap b))) := fun g a w r => ⟨_, .val _ rfl, fun w' => by
 have h1 := (ev_rep r hx).val_inv
 unfold execOp; rw [ho]
 cases u <;> simp [h1, convert, run_underlying hu, run_underlying hu', Conv.intToInt]⟩
theorem VPure.extract {x : Operand} {vs : List V} {i : Nat} {v : V} (ho : o.op = .extract x i) (hx : ev st.s x = some (.tup vs)) (hv : vs[i]? = some v) : VPure P n cx o st v := fun g a w r => by
 have h1 := ev_rep r hx
 generalize he : a.eval x = m at h1
 cases h1 with
 | tup _ ms h2 h3 =>
  have hi : i < ms.size := by rw [h2]; exact (List.getElem?_eq_some_iff.1 hv).1
  refine ⟨ms[i], h3 i v _ hv (Array.getElem?_eq_getElem hi), fun w' => ?_⟩
  unfold execOp; rw [ho]; simp [he, Instr.extract, hi]
theorem VPure.makeFunc {f : FuncId} {cs : Array Operand} {vs : List V} (ho : o.op = .makeFunc (.func f) #[] cs) (hl : cs.size = vs.length) (hv : ∀ (i : Nat) (c : Operand) (v : V), cs[i]? = some c → vs[i]? = some v → ev st.s c = some v) : VPure P n cx o st (.fn f vs) := fun g a w r => by
 refine ⟨_, .fn f vs (cs.map a.eval) (by simpa using hl) (fun i c m hc hm => ?_), fun w' => ?_⟩
 ·rw [Array.getElem?_map] at hm
  cases hci : cs[i]? with
  | none => rw [hci] at hm; cases hm
  | some x =>
   rw [hci] at hm
   obtain rfl := Option.some.inj hm
   exact ev_rep r (hv i x c hci hc)
 ·unfold execOp; rw [ho]; simp [Instr.makeFunc]
theorem VPure.len_str {x : Operand} {t : TypeId} {s : ByteArray} (hu : P.underlying t = some .string) (ho : o.op = .call { callee := .builtin .len, args := #[x], argTypes := #[t] }) (hx : ev st.s x = some (.val (.string s))) : VPure P n cx o st (.val (.int .i64 s.size)) := fun g a w r => ⟨_, .val _ rfl, fun w' => by
 have h1 := (ev_rep r hx).val_inv
 unfold execOp; rw [ho]; simp [resolve, invoke, builtin, h1, Builtin.len_, run_underlying hu, goInt]⟩
theorem VPure.len_sl {x : Operand} {t e : TypeId} {sz : Nat} {xs : List (List D)} (hu : P.underlying t = some (.slice e)) (ho : o.op = .call { callee := .builtin .len, args := #[x], argTypes := #[t] }) (hx : ev st.s x = some (.sl sz xs)) : VPure P n cx o st (.val (.int .i64 xs.length)) := fun g a w r => ⟨_, .val _ rfl, fun w' => by
 have h1 := ev_rep r hx
 generalize he : a.eval x = m at h1
 cases h1 with
 | sl _ _ _ h1 => cases h1 <;> (unfold execOp; rw [ho]; simp [resolve, invoke, builtin, he, Builtin.len_, run_underlying hu, goInt])⟩
theorem VPure.len_nil {x : Operand} {t e : TypeId} {A : Option Addr} {m c : Nat} (hu : P.underlying t = some (.slice e)) (ho : o.op = .call { callee := .builtin .len, args := #[x], argTypes := #[t] }) (hx : ev st.s x = some (.val (.slice A m c))) : VPure P n cx o st (.val (.int .i64 m)) := fun g a w r => ⟨_, .val _ rfl, fun w' => by
 have h1 := (ev_rep r hx).val_inv
 unfold execOp; rw [ho]; simp [resolve, invoke, builtin, h1, Builtin.len_, run_underlying hu, goInt]⟩
theorem VPure.len_arr {x : Operand} {t e e' : TypeId} {id sz : Nat} {xs : List (List D)} (hu : P.underlying t = some (.slice e)) (ho : o.op = .call { callee := .builtin .len, args := #[x], argTypes := #[t] }) (hx : ev st.s x = some (.ref id)) (hh : lk st.h id = some (.arr e' sz xs)) : VPure P n cx o st (.val (.int .i64 xs.length)) := fun g a w r => by
 have h1 := ev_rep r hx
 have hgv : gvOf st.h g id = some (g id) := by simp [gvOf, hh, O.live]
 obtain ⟨hlt, o', ho', hrep⟩ := r.h.obj _ _ hgv
 rw [hh] at ho'
 obtain rfl := Option.some.inj ho'
 generalize he : a.eval x = m at h1
 cases h1 with
 | ref _ _ h2 h0 h3 =>
  have hm := h3 _ hgv
  generalize g id = gi at hm hrep
  cases hrep with
  | arr _ _ _ _ ms e1 e2 e3 e4 e5 =>
   refine ⟨_, .val _ rfl, fun w' => ?_⟩
   have hs : ∃ A c, m = .slice A xs.length c := by
    rw [hm]
    rcases e1.2 with ⟨rfl, h0⟩ | ⟨b, cap, cur, rfl, _⟩
    ·exact ⟨none, 0, by rw [h0]; rfl⟩
    ·exact ⟨_, _, rfl⟩
   obtain ⟨A, c, hs⟩ := hs
   unfold execOp; rw [ho]; simp [resolve, invoke, builtin, he, hs, Builtin.len_, run_underlying hu, goInt]
end
end Go.Proofs.Ytfjfbapiheehaaa.V
namespace Go.Proofs.Ytfjfbapiheehaaa.V
open Go Go.RowKit Go.ChangeShapes Go.WideShapes
theorem addr_add (a : Addr) (x y : Nat) : (a.add x).add y = a.add (x + y) := by
 unfold Addr.add
 by_cases hx : x = 0
 ·subst hx; simp
 ·by_cases hy : y = 0
  ·subst hy; simp
  ·have : x + y ≠ 0 := by omega
   simp only [if_neg hx, if_neg hy, if_neg this, Nat.add_assoc]
class TI (P : Program) (t : TypeId) (d : outParam TypeDesc) (s b : outParam Nat) (z : outParam Value) : Prop where
 und : P.underlying t = some d
 info : ∃ i, P.info? t = some i ∧ i.size = s ∧ i.bytes = b ∧ i.zero = some z
theorem TI.mk' {P : Program} {t : TypeId} {d : TypeDesc} {s b : Nat} {z : Value} (h : P.underlying t = some d) (h2 : (P.info? t).map (fun i => (i.zero, i.size, i.bytes)) = some (some z, s, b)) : TI P t d s b z := ⟨h, by
 cases hi : P.info? t with
 | none => rw [hi] at h2; cases h2
 | some i =>
  rw [hi] at h2
  simp only [Option.map_some, Option.some.injEq, Prod.mk.injEq] at h2
  exact ⟨i, rfl, h2.2.1, h2.2.2, h2.1⟩⟩
theorem TI.und' {P : Program} {t : TypeId} {d : TypeDesc} {s b : Nat} {z : Value} [h : TI P t d s b z] : P.underlying t = some d := h.und
theorem TI.run_size {P : Program} {t : TypeId} {d : TypeDesc} {s b : Nat} {z : Value} (h : TI P t d s b z) (w : World) : (sizeOf t).run P w = .ok s w := by
 obtain ⟨i, h1, rfl, _⟩ := h.info
 simp [sizeOf, typeInfo, h1]
theorem TI.run_zero {P : Program} {t : TypeId} {d : TypeDesc} {s b : Nat} {z : Value} (h : TI P t d s b z) (w : World) : (zeroValue t).run P w = .ok z w := by
 obtain ⟨i, h1, _, _, h2⟩ := h.info
 simp [zeroValue, typeInfo, h1, h2]
class FA (P : Program) (t i : Nat) (off : outParam Nat) : Prop where
 ex : ∃ fs f s b z d' s' b' z', TI P t (.struct fs) s b z ∧ fs[i]? = some f ∧ TI P f.type d' s' b' z' ∧ s' ≠ 0 ∧ f.offset = off
theorem FA.mk' {P : Program} {t i off : Nat} {fs : Array Field} {f : Field} {s b s' b' : Nat} {z z' : Value} {d' : TypeDesc} (h : TI P t (.struct fs) s b z) (h1 : fs[i]? = some f) (h2 : TI P f.type d' s' b' z') (h3 : s' ≠ 0) (h4 : f.offset = off) : FA P t i off := ⟨fs, f, s, b, z, d', s', b', z', h, h1, h2, h3, h4⟩
def aggT : TypeDesc → Bool
 | .struct _ => true
 | .array _ _ => true
 | _ => false
theorem run_isAgg {P : Program} {t : TypeId} {d : TypeDesc} (h : P.underlying t = some d) (w : World) : (isAgg t).run P w = .ok (aggT d) w := by
 unfold isAgg
 rw [Sem.run_bind, run_underlying h]
 cases d <;> rfl
section
variable {P : Program} {n : Nat} {cx : Cx} {st : St} {o : Oper} {m : List Nat}
theorem Rep.box {g : Nat → Value} {a : Act} {w : World} (r : Rep n cx g st a w) {id : Nat} {t : TypeId} {cs : List V} (hh : lk st.h id = some (.cells t cs)) :
  ∃ b ms, gvOf st.h g id = some (.pointer (some ⟨b, 0, none⟩)) ∧ w.heap[b]? = some (.cells ms t (0, 0)) ∧ ms.size = cs.length ∧ (∀ m ∈ ms, m.oneCell' = true) ∧ (∀ (i : Nat) (c : V) (m : Value), cs[i]? = some c → ms[i]? = some m → VRep (Rd cx.z st.h g w) (gvOf st.h g) st.x c m) := by
 have hgv : gvOf st.h g id = some (g id) := by simp [gvOf, hh, O.live]
 obtain ⟨hlt, o', ho', hrep⟩ := r.h.obj _ _ hgv
 rw [hh] at ho'
 obtain rfl := Option.some.inj ho'
 generalize g id = gi at hgv hrep
 cases hrep with
 | cells _ _ b ms e1 e2 e3 e4 => exact ⟨b, ms, hgv, e1, e2, e3, e4⟩
theorem Rep.arr {g : Nat → Value} {a : Act} {w : World} (r : Rep n cx g st a w) {id sz : Nat} {t : TypeId} {xs : List (List D)} (hh : lk st.h id = some (.arr t sz xs)) :
  ∃ v ms, gvOf st.h g id = some v ∧ w.ownsRow 0 t sz v xs.length ms ∧ (∀ row ∈ xs, row.length = sz) ∧ xs.length ≤ most ∧ (∀ m ∈ ms, m.oneCell' = true) ∧
   (∀ (i j : Nat) (d : D), (xs[i]?).bind (·[j]?) = some d → ∃ m, ms[i * sz + j]? = some m ∧ DRep (Rd cx.z st.h g w) d m) := by
 have hgv : gvOf st.h g id = some (g id) := by simp [gvOf, hh, O.live]
 obtain ⟨hlt, o', ho', hrep⟩ := r.h.obj _ _ hgv
 rw [hh] at ho'
 obtain rfl := Option.some.inj ho'
 generalize g id = gi at hgv hrep
 cases hrep with
 | arr _ _ _ _ ms e1 e2 e3 e4 e5 => exact ⟨gi, ms, hgv, e1, e2, e3, e4, e5⟩
theorem Rep.nest {g : Nat → Value} {a : Act} {w : World} (r : Rep n cx g st a w) {id sz : Nat} {t : TypeId} {rows : List (List N)} {hole : Option (Nat × Nat × Nat)} (hh : lk st.h id = some (.nest t sz rows hole)) :
  ∃ v ms us, gvOf st.h g id = some (.agg (v :: us).toArray) ∧ w.ownsRow 0 t sz v rows.length ms ∧ (∀ row ∈ rows, row.length = sz) ∧ rows.length ≤ most ∧ (∀ m ∈ ms, m.oneCell' = true) ∧ us.length = ms.length ∧
   (∀ (i j : Nat) (c : N), (rows[i]?).bind (·[j]?) = some c → ∃ m u, ms[i * sz + j]? = some m ∧ us[i * sz + j]? = some u ∧ HoleRep (Rd cx.z st.h g w) (gvOf st.h g) st.x w hole i j c m u) ∧
   (∀ (p q : Nat) (u u' : Value) (k : Nat), (v :: us)[p]? = some u → (v :: us)[q]? = some u' → blk u = some k → blk u' = some k → p = q) := by
 have hgv : gvOf st.h g id = some (g id) := by simp [gvOf, hh, O.live]
 obtain ⟨hlt, o', ho', hrep⟩ := r.h.obj _ _ hgv
 rw [hh] at ho'
 obtain rfl := Option.some.inj ho'
 generalize g id = gi at hgv hrep
 cases hrep with
 | nest _ _ _ _ v ms us e1 e2 e3 e4 e5 e6 e7 => exact ⟨v, ms, us, hgv, e1, e2, e3, e4, e5, e6, e7⟩
theorem run_field {t : TypeId} {fs : Array Field} {i : Nat} {f : Field} {s b s' b' : Nat} {z z' : Value} {d' : TypeDesc} (ht : TI P t (.struct fs) s b z) (hf : fs[i]? = some f) (hf' : TI P f.type d' s' b' z') (hs : s' ≠ 0) (ad : Addr) (w : World) :
  (Instr.fieldAt t (.pointer (some ad)) i).run P w = .ok (.pointer (some (ad.add f.offset))) w := by
 simp [Instr.fieldAt, run_underlying ht.und, hf, Instr.sureAddr, fieldPlace, hf'.run_size, hs]
section
variable {t : TypeId} {x : Operand} {fs : Array Field} {i : Nat} {f : Field} {s b s' b' : Nat} {z z' : Value} {d' : TypeDesc}
theorem VPure.field_ptr0 {id off : Nat} {t' : TypeId} {cs : List V} (ho : o.op = .fieldAddr t x i) (hx : ev st.s x = some (.ptr id off)) (hh : lk st.h id = some (.cells t' cs)) [ht : TI P t (.struct fs) s b z] (hf : fs[i]? = some f) [hf' : TI P f.type d' s' b' z'] (hs : s' ≠ 0) :
  VPure P n cx o st (.ptr id (off + f.offset)) := fun g a w r => by
 have h1 := ev_rep r hx
 obtain ⟨bb, ms, hgv, _⟩ := r.box hh
 generalize he : a.eval x = mm at h1
 cases h1 with
 | ptr _ _ _ h2 h0 h3 =>
  have hm := h3 _ hgv
  subst hm
  refine ⟨.pointer (some ⟨bb, off + f.offset, none⟩), .ptr _ _ _ h2 rfl (fun b' hb' => ?_), fun w' => ?_⟩
  ·rw [hgv] at hb'
   injection hb' with hb'; injection hb' with hb'; injection hb' with hb'; injection hb' with hb'
   rw [hb']
  ·unfold execOp; rw [ho]; simp only [he]
   rw [Sem.run_bind, run_field ht hf hf' hs]
   have : (⟨bb, off, none⟩ : Addr).add f.offset = ⟨bb, off + f.offset, none⟩ := by unfold Addr.add; split <;> simp_all
   rw [this]; rfl
theorem VPure.field_el0 {cs : List D} (ho : o.op = .fieldAddr t x i) (hx : ev st.s x = some (.el cs)) [ht : TI P t (.struct fs) s b z] (hf : fs[i]? = some f) [hf' : TI P f.type d' s' b' z'] (hs : s' ≠ 0) :
  VPure P n cx o st (.el (cs.drop f.offset)) := fun g a w r => by
 have h1 := ev_rep r hx
 generalize he : a.eval x = mm at h1
 cases h1 with
 | el _ ad h2 =>
  refine ⟨.pointer (some (ad.add f.offset)), .el _ _ (fun j d hj => ?_), fun w' => ?_⟩
  ·rw [List.getElem?_drop] at hj
   obtain ⟨m, hm, hd⟩ := h2 _ _ hj
   exact ⟨m, by rw [addr_add]; exact hm, hd⟩
  ·unfold execOp; rw [ho]; simp only [he]
   rw [Sem.run_bind, run_field ht hf hf' hs]; rfl
end
theorem VPure.field_el {t i off : Nat} {x : Operand} {cs : List D} (ho : o.op = .fieldAddr t x i) (hx : ev st.s x = some (.el cs)) [fa : FA P t i off] : VPure P n cx o st (.el (cs.drop off)) := by
 obtain ⟨fs, f, s, b, z, d', s', b', z', h1, h2, h3, h4, rfl⟩ := fa.ex
 exact VPure.field_el0 ho hx (ht := h1) h2 (hf' := h3) h4
theorem VPure.field_ptr {t i off k : Nat} {x : Operand} {id : Nat} {t' : TypeId} {cs : List V} (ho : o.op = .fieldAddr t x i) (hx : ev st.s x = some (.ptr id k)) (hh : lk st.h id = some (.cells t' cs)) [fa : FA P t i off] : VPure P n cx o st (.ptr id (k + off)) := by
 obtain ⟨fs, f, s, b, z, d', s', b', z', h1, h2, h3, h4, rfl⟩ := fa.ex
 exact VPure.field_ptr0 ho hx hh (ht := h1) h2 (hf' := h3) h4
theorem run_load1 {t : TypeId} {d : TypeDesc} (hu : P.underlying t = some d) (hd : aggT d = false) {ad : Addr} {w : World} {v : Value} (h : w.cell? ad = some v) : (Instr.loadAt t (.pointer (some ad))).run P w = .ok v w := by
 unfold Instr.loadAt loadVar
 simp only [Instr.sureAddr, Sem.run_bind, Sem.run_pure, Result.andThen_ok, run_isAgg hu, hd]
 simp [load, Sem.run, h]
theorem run_loadA {t : TypeId} {d : TypeDesc} {s b : Nat} {z : Value} (ht : TI P t d s b z) (hd : aggT d = true) {ad : Addr} {w : World} {cs : List Value} (hl : cs.length = s) (h : ∀ (j : Nat) (v : Value), cs[j]? = some v → w.cell? (ad.add j) = some v) : (Instr.loadAt t (.pointer (some ad))).run P w = .ok (.agg cs.toArray) w := by
 unfold Instr.loadAt loadVar
 simp only [Instr.sureAddr, Sem.run_bind, Sem.run_pure, Result.andThen_ok, run_isAgg ht.und, hd, if_true, ht.run_size]
 rw [← hl, run_loadCells_list w ad cs h]; rfl
section
variable {t : TypeId} {x : Operand} {s b : Nat} {z : Value} {d : TypeDesc}
theorem oneCell_add0 (a : Addr) : a.add 0 = a := by unfold Addr.add; simp
theorem VLoad.el1 {c : D} {cs : List D} (ho : o.op = .load t x) (hx : ev st.s x = some (.el cs)) (hc : cs[0]? = some c) [ht : TI P t d s b z] (hd : aggT d = false) : VLoad P n cx m o st c.toV := fun g a w r => by
 have h1 := ev_rep r hx
 generalize he : a.eval x = mm at h1
 cases h1 with
 | el _ ad h2 =>
  obtain ⟨u, hu, hr⟩ := h2 0 c hc
  rw [oneCell_add0] at hu
  refine ⟨u, .of_D hr, fun w' hw' => ?_⟩
  have hlt := World.block_lt_of_cell? w ad hu.cell
  have hcell : w'.cell? ad = some u := (World.cell?_of_block (hw' _ hlt (fun id _ v hv hb => hu.own ⟨id, v, hv, hb⟩))).trans hu.cell
  unfold execOp; rw [ho]; simp only [he]
  rw [Sem.run_bind, run_load1 ht.und hd hcell]; rfl
theorem VLoad.elA {cs : List D} (ho : o.op = .load t x) (hx : ev st.s x = some (.el cs)) [ht : TI P t d s b z] (hd : aggT d = true) (hl : s ≤ cs.length) : VLoad P n cx m o st (.agg ((cs.take s).map D.toV)) := fun g a w r => by
 have h1 := ev_rep r hx
 generalize he : a.eval x = mm at h1
 cases h1 with
 | el _ ad h2 =>
  have hex : ∀ j : Fin s, ∃ u, Rd cx.z st.h g w (ad.add j.val) u ∧ DRep (Rd cx.z st.h g w) (cs[j.val]'(Nat.lt_of_lt_of_le j.isLt hl)) u := fun j => h2 j.val _ (List.getElem?_eq_getElem _)
  have hcell : ∀ (w' : World), (∀ k, k < w.heap.size → (∀ id ∈ m, ∀ v, gvOf st.h g id = some v → ¬ Blk v k) → w'.heap[k]? = w.heap[k]?) → ∀ (j : Nat) (v : Value), (List.ofFn fun j => (hex j).choose)[j]? = some v → w'.cell? (ad.add j) = some v := by
   intro w' hw' j v hj
   rw [List.getElem?_ofFn] at hj
   split at hj
   ·rename_i hlt
    simp only [Option.some.injEq] at hj
    subst hj
    have hu := (hex ⟨j, hlt⟩).choose_spec.1
    exact (World.cell?_of_block (hw' _ (World.block_lt_of_cell? w _ hu.cell) (fun id _ v hv hb => hu.own ⟨id, v, hv, hb⟩))).trans hu.cell
   ·cases hj
  refine ⟨.agg (List.ofFn fun j => (hex j).choose).toArray, .agg _ _ (by simp; omega) (fun i c u hc hu => ?_), fun w' hw' => ?_⟩
  ·simp only [List.getElem?_toArray, List.getElem?_ofFn] at hu
   split at hu
   ·rename_i hlt
    simp only [Option.some.injEq] at hu
    subst hu
    simp only [List.getElem?_map, List.getElem?_take, if_pos hlt, List.getElem?_eq_getElem (Nat.lt_of_lt_of_le hlt hl), Option.map_some, Option.some.injEq] at hc
    subst hc
    exact .of_D (hex ⟨i, hlt⟩).choose_spec.2
   ·cases hu
  ·unfold execOp; rw [ho]; simp only [he]
   rw [Sem.run_bind, run_loadA ht hd (by simp) (hcell w' hw')]; rfl
theorem VLoad.box1 {id off : Nat} {t' : TypeId} {cs : List V} {c : V} (ho : o.op = .load t x) (hx : ev st.s x = some (.ptr id off)) (hh : lk st.h id = some (.cells t' cs)) (hc : cs[off]? = some c) [ht : TI P t d s b z] (hd : aggT d = false) (hm : id ∉ m) : VLoad P n cx m o st c := fun g a w r => by
 have h1 := ev_rep r hx
 obtain ⟨bb, ms, hgv, hb, hsz, h1c, hrep⟩ := r.box hh
 generalize he : a.eval x = mm at h1
 cases h1 with
 | ptr _ _ _ h2 h0 h3 =>
  have hm' := h3 _ hgv
  subst hm'
  have hi : off < ms.size := by rw [hsz]; exact (List.getElem?_eq_some_iff.1 hc).1
  refine ⟨ms[off], hrep off c _ hc (Array.getElem?_eq_getElem hi), fun w' hw' => ?_⟩
  have hbb : w'.heap[bb]? = w.heap[bb]? := hw' bb (Array.getElem?_eq_some_iff.1 hb).1 (fun id' hid v hv hbk => by
   have := r.h.apart _ _ _ _ _ hv hgv hbk (.inl rfl)
   subst this; exact hm hid)
  have hcell : w'.cell? ⟨bb, off, none⟩ = some ms[off] := by
   rw [cell_of_row w' bb off ms t' (0, 0) (hbb.trans hb)]; exact Array.getElem?_eq_getElem hi
  unfold execOp; rw [ho]; simp only [he]
  rw [Sem.run_bind, run_load1 ht.und hd hcell]; rfl
theorem VLoad.boxA {id off : Nat} {t' : TypeId} {cs : List V} (ho : o.op = .load t x) (hx : ev st.s x = some (.ptr id off)) (hh : lk st.h id = some (.cells t' cs)) [ht : TI P t d s b z] (hd : aggT d = true) (hl : off + s ≤ cs.length) (hm : id ∉ m) :
  VLoad P n cx m o st (.agg ((cs.drop off).take s)) := fun g a w r => by
 have h1 := ev_rep r hx
 obtain ⟨bb, ms, hgv, hb, hsz, h1c, hrep⟩ := r.box hh
 generalize he : a.eval x = mm at h1
 cases h1 with
 | ptr _ _ _ h2 h0 h3 =>
  have hm' := h3 _ hgv
  subst hm'
  refine ⟨.agg ((ms.toList.drop off).take s).toArray, .agg _ _ (by simp; omega) (fun i c u hc hu => ?_), fun w' hw' => ?_⟩
  ·simp only [List.getElem?_toArray, List.getElem?_take, List.getElem?_drop] at hc hu
   split at hc
   ·rename_i hlt
    rw [if_pos hlt] at hu
    exact hrep _ c u hc (by simpa using hu)
   ·cases hc
  ·have hbb : w'.heap[bb]? = w.heap[bb]? := hw' bb (Array.getElem?_eq_some_iff.1 hb).1 (fun id' hid v hv hbk => by
    have := r.h.apart _ _ _ _ _ hv hgv hbk (.inl rfl)
    subst this; exact hm hid)
   unfold execOp; rw [ho]; simp only [he]
   rw [Sem.run_bind, run_loadA ht hd (cs := (ms.toList.drop off).take s) (by simp; omega) ?_]
   ·rfl
   ·intro j v hj
    simp only [List.getElem?_take, List.getElem?_drop] at hj
    split at hj
    ·have : (⟨bb, off, none⟩ : Addr).add j = ⟨bb, off + j, none⟩ := by unfold Addr.add; split <;> simp_all
     rw [this, cell_of_row w' bb (off + j) ms t' (0, 0) (hbb.trans hb)]
     simpa using hj
    ·cases hj
end
end
end Go.Proofs.Ytfjfbapiheehaaa.V
namespace Go.Proofs.Ytfjfbapiheehaaa.V
open Go Go.RowKit Go.ChangeShapes Go.WideShapes Go.Proofs.YtfjfbapiheehaaaW.PrintWords
section
variable {P : Program} {n : Nat} {cx : Cx} {st : St} {o : Oper} {m : List Nat}
theorem run_index_slice {t e : TypeId} {s b s' b' : Nat} {z z' : Value} {d' : TypeDesc} (ht : TI P t (.slice e) s b z) (he : TI P e d' s' b' z') {k : IntKind} {i : Int} {ad : Addr} {len c : Nat} (h0 : 0 ≤ i) (h1 : i < len) (w : World) :
  (Instr.indexAt t (.slice (some ad) len c) (.int k i)).run P w = .ok (.pointer (some (ad.add (i.toNat * s')))) w := by
 simp [Instr.indexAt, asIntOf, run_underlying ht.und, h0, h1, he.run_size]
section
variable {t e : TypeId} {x y : Operand} {s b s' b' : Nat} {z z' : Value} {d' : TypeDesc} {k : IntKind} {i : Int}
theorem VPure.idx_sl {xs : List (List D)} (ho : o.op = .indexAddr t x y) (hx : ev st.s x = some (.sl s' xs)) (hy : ev st.s y = some (.val (.int k i))) [ht : TI P t (.slice e) s b z] [he : TI P e d' s' b' z'] (h0 : 0 ≤ i) (h1 : i < xs.length) :
  VPure P n cx o st (.el (xs.getD i.toNat [])) := fun g a w r => by
 have h2 := ev_rep r hx
 have h3 := (ev_rep r hy).val_inv
 generalize hex : a.eval x = mm at h2
 have hi : i.toNat < xs.length := by omega
 cases h2 with
 | sl _ _ _ h2 =>
  cases h2 with
  | nil => simp at h1; omega
  | sl _ _ ad c f e1 e2 e3 e4 e5 =>
   have hg : xs.getD i.toNat [] = xs[i.toNat] := by rw [List.getD_eq_getElem?_getD, List.getElem?_eq_getElem hi]; rfl
   refine ⟨.pointer (some (ad.add (i.toNat * s'))), .el _ _ (fun j d hj => ?_), fun w' => ?_⟩
   ·rw [hg] at hj
    have hb : (xs[i.toNat]?).bind (·[j]?) = some d := by rw [List.getElem?_eq_getElem hi]; exact hj
    exact ⟨_, by rw [addr_add]; exact e4 _ _ _ hb, e5 _ _ _ hb⟩
   ·unfold execOp; rw [ho]; simp only [hex, h3]
    rw [Sem.run_bind, run_index_slice ht he h0 h1]; rfl
theorem VPure.idx_arr {id : Nat} {e' : TypeId} {xs : List (List D)} (ho : o.op = .indexAddr t x y) (hx : ev st.s x = some (.ref id)) (hy : ev st.s y = some (.val (.int k i))) (hh : lk st.h id = some (.arr e' s' xs)) [ht : TI P t (.slice e) s b z] [he : TI P e d' s' b' z'] (h0 : 0 ≤ i) (h1 : i < xs.length) :
  VPure P n cx o st (.ael id (i.toNat * s')) := fun g a w r => by
 have h2 := ev_rep r hx
 have h3 := (ev_rep r hy).val_inv
 obtain ⟨v, ms, hgv, e1, _⟩ := r.arr hh
 generalize hex : a.eval x = mm at h2
 cases h2 with
 | ref _ _ h4 h5 h6 =>
  have hm := (h6 _ hgv).trans (ownsRow_hd e1)
  subst hm
  rcases e1.2 with ⟨rfl, h0'⟩ | ⟨bb, cap, cur, rfl, _⟩
  ·omega
  ·refine ⟨.pointer (some ((⟨bb, 0, none⟩ : Addr).add (i.toNat * s'))), .ael _ _ _ h4 rfl (fun vv ad nn c hb hh0 => ?_), fun w' => ?_⟩
   ·rw [hgv] at hb
    obtain rfl := Option.some.inj hb
    simp only [hdV] at hh0
    injection hh0 with hb _ _; injection hb with hb
    rw [hb]
   ·unfold execOp; rw [ho]; simp only [hex, h3]
    rw [Sem.run_bind, run_index_slice ht he h0 h1]; rfl
end
section
variable {t : TypeId} {x : Operand} {s b : Nat} {z : Value} {d : TypeDesc}
theorem arr_cell {g : Nat → Value} {a : Act} {w w' : World} (r : Rep n cx g st a w) {id sz : Nat} {e' : TypeId} {xs : List (List D)} (hh : lk st.h id = some (.arr e' sz xs)) (hm : id ∉ m)
  (hw' : ∀ k, k < w.heap.size → (∀ id ∈ m, ∀ v, gvOf st.h g id = some v → ¬ Blk v k) → w'.heap[k]? = w.heap[k]?) {bb cap : Nat} (hgv : gvOf st.h g id = some (.slice (some ⟨bb, 0, none⟩) xs.length cap)) {ms : List Value} (e1 : w.ownsRow 0 e' sz (.slice (some ⟨bb, 0, none⟩) xs.length cap) xs.length ms)
  (p : Nat) (u : Value) (hu : ms[p]? = some u) : w'.cell? ((⟨bb, 0, none⟩ : Addr).add p) = some u := by
 have hc := e1.cells (g := bb) rfl p u hu
 have hblk : ((⟨bb, 0, none⟩ : Addr).add p).block = bb := by unfold Addr.add; split <;> rfl
 have hlt := World.block_lt_of_cell? w _ hc
 rw [hblk] at hlt
 refine (World.cell?_of_block (w := w) ?_).trans hc
 rw [hblk]
 exact hw' bb hlt (fun id' hid v hv hbk => by
  have := r.h.apart _ _ _ _ _ hv hgv hbk (.inl rfl)
  subst this; exact hm hid)
theorem VLoad.arr1 {id pos i j sz : Nat} {e' : TypeId} {xs : List (List D)} {c : D} (ho : o.op = .load t x) (hx : ev st.s x = some (.ael id pos)) (hh : lk st.h id = some (.arr e' sz xs)) (hp : pos = i * sz + j) (hc : (xs[i]?).bind (·[j]?) = some c) [ht : TI P t d s b z] (hd : aggT d = false) (hm : id ∉ m) :
  VLoad P n cx m o st c.toV := fun g a w r => by
 have h1 := ev_rep r hx
 obtain ⟨v, ms, hgv, e1, e2, e3, e4, e5⟩ := r.arr hh
 generalize he : a.eval x = mm at h1
 cases h1 with
 | ael _ _ _ h2 h0 h3 =>
  rcases e1.2 with ⟨rfl, h0'⟩ | ⟨bb, cap, cur, hv, _⟩
  ·rw [List.eq_nil_of_length_eq_zero h0'] at hc; simp at hc
  ·subst hv
   have hm' := h3 _ _ _ _ hgv rfl
   subst hm'
   obtain ⟨u, hu, hr⟩ := e5 i j c hc
   rw [← hp] at hu
   refine ⟨u, .of_D hr, fun w' hw' => ?_⟩
   have hcell := arr_cell r hh hm hw' hgv e1 pos u hu
   unfold execOp; rw [ho]; simp only [he]
   rw [Sem.run_bind, run_load1 ht.und hd hcell]; rfl
theorem VLoad.arrA {id pos i j sz : Nat} {e' : TypeId} {xs : List (List D)} {row : List D} (ho : o.op = .load t x) (hx : ev st.s x = some (.ael id pos)) (hh : lk st.h id = some (.arr e' sz xs)) (hp : pos = i * sz + j) (hc : xs[i]? = some row) [ht : TI P t d s b z] (hd : aggT d = true) (hl : j + s ≤ row.length) (hm : id ∉ m) :
  VLoad P n cx m o st (.agg (((row.drop j).take s).map D.toV)) := fun g a w r => by
 have h1 := ev_rep r hx
 obtain ⟨v, ms, hgv, e1, e2, e3, e4, e5⟩ := r.arr hh
 generalize he : a.eval x = mm at h1
 cases h1 with
 | ael _ _ _ h2 h0 h3 =>
  rcases e1.2 with ⟨rfl, h0'⟩ | ⟨bb, cap, cur, hv, _⟩
  ·rw [List.eq_nil_of_length_eq_zero h0'] at hc; simp at hc
  ·subst hv
   have hm' := h3 _ _ _ _ hgv rfl
   subst hm'
   have hex : ∀ q : Fin s, ∃ u, ms[pos + q.val]? = some u ∧ DRep (Rd cx.z st.h g w) (row[j + q.val]'(by have := q.isLt; omega)) u := fun q => by
    have hq : (xs[i]?).bind (·[j + q.val]?) = some (row[j + q.val]'(by have := q.isLt; omega)) := by rw [hc]; exact List.getElem?_eq_getElem _
    obtain ⟨u, hu, hr⟩ := e5 i (j + q.val) _ hq
    exact ⟨u, by rw [hp, Nat.add_assoc]; exact hu, hr⟩
   refine ⟨.agg (List.ofFn fun q => (hex q).choose).toArray, .agg _ _ (by simp; omega) (fun q c u hc' hu => ?_), fun w' hw' => ?_⟩
   ·simp only [List.getElem?_toArray, List.getElem?_ofFn] at hu
    split at hu
    ·rename_i hlt
     simp only [Option.some.injEq] at hu
     subst hu
     simp only [List.getElem?_map, List.getElem?_take, if_pos hlt, List.getElem?_drop, List.getElem?_eq_getElem (show j + q < row.length by omega), Option.map_some, Option.some.injEq] at hc'
     subst hc'
     exact .of_D (hex ⟨q, hlt⟩).choose_spec.2
    ·cases hu
   ·unfold execOp; rw [ho]; simp only [he]
    rw [Sem.run_bind, run_loadA ht hd (cs := List.ofFn fun q => (hex q).choose) (by simp) ?_]
    ·rfl
    ·intro q u hq
     rw [List.getElem?_ofFn] at hq
     split at hq
     ·rename_i hlt
      simp only [Option.some.injEq] at hq
      subst hq
      rw [addr_add]
      exact arr_cell r hh hm hw' hgv e1 _ _ (hex ⟨q, hlt⟩).choose_spec.1
     ·cases hq
end
def Bound (s : List (Nat × V)) (x : Option Operand) (dflt v : Int) : Prop := (x = none ∧ v = dflt) ∨ ∃ y k, x = some y ∧ ev s y = some (.val (.int k v))
theorem Bound.none {s : List (Nat × V)} {v : Int} : Bound s .none v v := .inl ⟨rfl, rfl⟩
theorem Bound.some {s : List (Nat × V)} {y : Operand} {k : IntKind} {d v : Int} (h : ev s y = some (.val (.int k v))) : Bound s (.some y) d v := .inr ⟨y, k, rfl, h⟩
theorem run_bounds {g : Nat → Value} {a : Act} {w0 : World} (r : Rep n cx g st a w0) {isSlice : Bool} {len cap : Nat} {lo hi : Option Operand} {l h : Int} (hl : Bound st.s lo 0 l) (hh : Bound st.s hi len h) (h0 : 0 ≤ l) (h1 : l ≤ h) (h2 : h ≤ cap) (w : World) :
  (Instr.sliceBounds isSlice len cap (lo.map a.eval) (hi.map a.eval) none).run P w = .ok (l.toNat, h.toNat, cap) w := by
 have hh' : 0 ≤ h := by omega
 have hb : l ≤ (h.toNat : Int) := by omega
 rcases hl with ⟨rfl, rfl⟩ | ⟨y, k, rfl, e1⟩ <;> rcases hh with ⟨rfl, rfl⟩ | ⟨y', k', rfl, e2⟩
 ·simp [Instr.sliceBounds]
 ·have := (ev_rep r e2).val_inv
  simp [Instr.sliceBounds, Instr.sliceBound, this, asIntOf, hh', h2]
 ·have := (ev_rep r e1).val_inv
  simp [Instr.sliceBounds, Instr.sliceBound, this, asIntOf, h0, h1]
 ·have e1 := (ev_rep r e1).val_inv
  have e2 := (ev_rep r e2).val_inv
  simp [Instr.sliceBounds, Instr.sliceBound, e1, e2, asIntOf, h0, hh', h2, hb]
  intro hc; omega
theorem VPure.cut_sl {t e : TypeId} {x : Operand} {lo hi : Option Operand} {xs : List (List D)} {s b s' b' : Nat} {z z' : Value} {d' : TypeDesc} {l h : Int} (ho : o.op = .slice t x lo hi none) (hx : ev st.s x = some (.sl s' xs)) (hl : Bound st.s lo 0 l) (hh : Bound st.s hi xs.length h)
  [ht : TI P t (.slice e) s b z] [he : TI P e d' s' b' z'] (h0 : 0 ≤ l) (h1 : l ≤ h) (h2 : h ≤ xs.length) : VPure P n cx o st (.sl s' ((xs.take h.toNat).drop l.toNat)) := fun g a w r => by
 have e1 := ev_rep r hx
 generalize hex : a.eval x = mm at e1
 cases e1 with
 | sl _ _ _ e1 =>
  obtain ⟨A, c, hmm, hlc⟩ : ∃ A c, mm = .slice A xs.length c ∧ xs.length ≤ c := by
   cases e1 with
   | nil _ A c => exact ⟨A, c, rfl, Nat.zero_le _⟩
   | sl _ _ ad c f e1 => exact ⟨some ad, c, rfl, e1⟩
  have hlen : ((xs.take h.toNat).drop l.toNat).length = h.toNat - l.toNat := by rw [List.length_drop, List.length_take]; omega
  refine ⟨.slice (if c = l.toNat then A else A.map (·.add (l.toNat * s'))) (h.toNat - l.toNat) (c - l.toNat), .sl _ _ _ ?_, fun w' => ?_⟩
  ·rw [← hlen]
   by_cases hn : (xs.take h.toNat).drop l.toNat = []
   ·rw [hn]; exact .nil _ _ _
   ·have hpos : l.toNat < h.toNat := by
     rcases Nat.lt_or_ge l.toNat h.toNat with h' | h'
     ·exact h'
     ·exact absurd (List.eq_nil_of_length_eq_zero (by rw [hlen]; omega)) hn
    rw [if_neg (by omega)]
    generalize hmm' : mm = m2 at e1
    cases e1 with
    | nil _ A' c' => simp at h2; omega
    | sl _ _ ad c' f e2 e3 e4 e5 e6 =>
     rw [hmm] at hmm'
     injection hmm' with ha hb hc
     subst ha
     subst hc
     have hget : ∀ (i j : Nat) (d : D), (((xs.take h.toNat).drop l.toNat)[i]?).bind (·[j]?) = some d → (xs[l.toNat + i]?).bind (·[j]?) = some d := by
      intro i j d hd
      rw [List.getElem?_drop, List.getElem?_take] at hd
      split at hd
      ·exact hd
      ·cases hd
     refine .sl s' _ (ad.add (l.toNat * s')) _ (fun i j => f (l.toNat + i) j) (by rw [hlen]; omega) (by rw [hlen]; omega) (fun row hr => e4 row (List.mem_of_mem_take (List.mem_of_mem_drop hr))) (fun i j d hd => ?_) (fun i j d hd => e6 _ _ _ (hget i j d hd))
     rw [addr_add, ← Nat.add_assoc, ← Nat.add_mul]
     exact e5 _ _ _ (hget i j d hd)
  ·subst hmm
   have hb := run_bounds (P := P) r (isSlice := true) (len := xs.length) (cap := c) hl hh h0 h1 (by omega) w'
   unfold execOp; rw [ho]; simp [hex, Instr.sliceAt, Instr.slice, run_underlying ht.und, hb, he.run_size]
end
end Go.Proofs.Ytfjfbapiheehaaa.V
namespace Go.Proofs.Ytfjfbapiheehaaa.V
open Go Go.RowKit Go.Proofs.YtfjfbapiheehaaaW.PrintWords
theorem ORep.next {h h' : Heap} {g g' : Nat → Value} {x x' : Nat} {w w' : World} {o : O} {v : Value} {z : Nat → Prop} (nx : Next h g x w h' g' x' w') (hb : ∀ k, Blk v k → w'.heap[k]? = w.heap[k]?) (r : ORep (Rd z h g w) (gvOf h g) x w o v) : ORep (Rd z h' g' w') (gvOf h' g') x' w' o v := by
 cases r with
 | cells t cs b ms e1 e2 e3 e4 => exact .cells t cs b ms ((hb b (.inl rfl)).trans e1) e2 e3 (fun i c m hc hm => nx.v (e4 i c m hc hm))
 | arr t sz xs v ms e1 e2 e3 e4 e5 => exact .arr t sz xs v ms (own_move e1 (fun k hk => hb k (.inl (blk_own hk)))) e2 e3 e4 (fun i j d h => let ⟨m, hm, hd⟩ := e5 i j d h; ⟨m, hm, hd.mono nx.m.rd⟩)
 | nest t sz rows hole v ms us e1 e2 e3 e4 e5 e6 e7 => exact ORep.nest_mv (.nest t sz rows hole v ms us e1 e2 e3 e4 e5 e6 e7) nx.m.rd (fun _ _ h => nx.v h) hb
 | map es r ms cl e1 e2 e3 e4 => exact .map es r ms cl ((hb r (.inl rfl)).trans e1) e2 (fun i e m h1 h2 => ⟨(e3 i e m h1 h2).1.mono nx.m.rd, (e3 i e m h1 h2).2.mono nx.m.rd⟩) e4
 | chan cap buf cl r ms s q e1 e2 e3 => exact .chan cap buf cl r ms s q ((hb r (.inl rfl)).trans e1) e2 (fun i e m h1 h2 => (e3 i e m h1 h2).mono nx.m.rd)
 | iter mp n' sn' r b sn e1 e2 e3 => exact .iter mp n' sn' r b sn ((hb r (.inl rfl)).trans e1) e2 (nx.v e3)
theorem HRep.upd {cx : Cx} {h h' : Heap} {g g' : Nat → Value} {x x' : Nat} {w w' : World} (hh : HRep cx g h x w) (nx : Next h g x w h' g' x' w') (os : w'.os = w.os) (tape : w'.tape = w.tape) (out : w'.output = w.output)
  (hobj : ∀ id v, gvOf h' g' id = some v → id < x' ∧ ((gvOf h g id = some v ∧ lk h' id = lk h id ∧ ∀ k, Blk v k → w'.heap[k]? = w.heap[k]?) ∨ ∃ o, lk h' id = some o ∧ ORep (Rd cx.z h' g' w') (gvOf h' g') x' w' o v))
  (hnew : ∀ id v, gvOf h' g' id = some v → gvOf h g id = some v ∨ (id = x ∧ ∀ k, Blk v k → (w.heap.size ≤ k ∧ k < w'.heap.size) ∨ ∃ id0 v0, gvOf h g id0 = some v0 ∧ Blk v0 k ∧ gvOf h' g' id0 = none)) : HRep cx g' h' x' w' := by
 refine ⟨os.trans hh.os, tape.trans hh.tape, out.trans hh.output, Nat.le_trans hh.size nx.m.size, ?_, ?_, ?_, ?_, ?_, Nat.le_trans hh.low nx.x, hh.apz⟩
 ·intro k hk hown
  refine (nx.m.keep k (Nat.lt_of_lt_of_le hk hh.size) ?_).trans (hh.old k hk hown)
  rintro ⟨id, v, h1, h2⟩
  rcases (hh.mine id v k h1 h2).2 with h3 | h3
  ·exact hown h3
  ·omega
 ·intro id v hv
  obtain ⟨h1, h2⟩ := hobj id v hv
  refine ⟨h1, ?_⟩
  rcases h2 with ⟨e1, e2, e3⟩ | h2
  ·obtain ⟨_, o, e4, e5⟩ := hh.obj id v e1
   exact ⟨o, e2.trans e4, e5.next nx e3⟩
  ·exact h2
 ·intro id id' v v' k h1 h2 h3 h4
  rcases hnew id v h1 with e | ⟨e, f⟩ <;> rcases hnew id' v' h2 with e' | ⟨e', f'⟩
  ·exact hh.apart _ _ _ _ _ e e' h3 h4
  ·rcases f' k h4 with ⟨f1, _⟩ | ⟨id0, v0, f1, f2, f3⟩
   ·have := (hh.mine _ _ _ e h3).1; omega
   ·have := hh.apart _ _ _ _ _ e f1 h3 f2
    subst this; rw [h1] at f3; cases f3
  ·rcases f k h3 with ⟨f1, _⟩ | ⟨id0, v0, f1, f2, f3⟩
   ·have := (hh.mine _ _ _ e' h4).1; omega
   ·have := hh.apart _ _ _ _ _ e' f1 h4 f2
    subst this; rw [h2] at f3; cases f3
  ·exact e.trans e'.symm
 ·intro id v k h1 h2
  rcases hnew id v h1 with e | ⟨e, f⟩
  ·have := hh.mine id v k e h2
   exact ⟨Nat.lt_of_lt_of_le this.1 nx.m.size, this.2⟩
  ·rcases f k h2 with ⟨f1, f2⟩ | ⟨id0, v0, f1, f2, f3⟩
   ·exact ⟨f2, .inr (Nat.le_trans hh.size f1)⟩
   ·have := hh.mine id0 v0 k f1 f2
    exact ⟨Nat.lt_of_lt_of_le this.1 nx.m.size, this.2⟩
 ·intro id v hlt h1
  exact hh.first id v hlt (nx.g id v (Nat.lt_of_lt_of_le hlt hh.low) h1)
def setG (g : Nat → Value) (x : Nat) (v : Value) : Nat → Value := fun id => if id = x then v else g id
theorem gv_new {h : Heap} {g : Nat → Value} {x : Nat} {v : Value} {o : O} (ho : o.live = true) : gvOf ((x, o) :: h) (setG g x v) x = some v := by
 simp [gvOf, lk_same, ho, setG]
theorem gv_old {h : Heap} {g : Nat → Value} {x id : Nat} {v : Value} {o : O} (hne : id ≠ x) : gvOf ((x, o) :: h) (setG g x v) id = gvOf h g id := by
 simp [gvOf, lk_other _ _ (Ne.symm hne), setG, hne]
theorem new_next {cx : Cx} {h : Heap} {g : Nat → Value} {x : Nat} {w : World} (hh : HRep cx g h x w) (ob : Obj) {o : O} {v : Value} (hl : o.live = true) (hv : blk v = some w.heap.size) : Next h g x w ((x, o) :: h) (setG g x v) (x + 1) (w.alloc ob) := by
 refine ⟨⟨by simp, ?_, fun k hk _ => Below.heap_alloc w ob _ hk⟩, fun id u hlt h1 => ?_, Nat.le_succ _⟩
 ·rintro k hk ⟨id, u, h1, h2⟩
  by_cases hid : id = x
  ·subst hid
   rw [gv_new hl] at h1
   obtain rfl := Option.some.inj h1
   have h2 := Blk.eq hv h2
   omega
  ·rw [gv_old hid] at h1
   exact ⟨id, u, h1, h2⟩
 ·rw [gv_old (by omega)] at h1; exact h1
theorem HRep.new {cx : Cx} {h : Heap} {g : Nat → Value} {x : Nat} {w : World} (hh : HRep cx g h x w) (ob : Obj) {o : O} {v : Value} (hl : o.live = true) (hv : blk v = some w.heap.size)
  (ho : ORep (Rd cx.z ((x, o) :: h) (setG g x v) (w.alloc ob)) (gvOf ((x, o) :: h) (setG g x v)) (x + 1) (w.alloc ob) o v) : HRep cx (setG g x v) ((x, o) :: h) (x + 1) (w.alloc ob) := by
 refine hh.upd (new_next hh ob hl hv) rfl rfl rfl ?_ ?_
 ·intro id u h1
  by_cases hid : id = x
  ·subst hid
   rw [gv_new hl] at h1
   obtain rfl := Option.some.inj h1
   exact ⟨Nat.lt_succ_self _, .inr ⟨o, lk_same _ _ _, ho⟩⟩
  ·rw [gv_old hid] at h1
   have := (hh.obj id u h1).1
   refine ⟨by omega, .inl ⟨h1, lk_other _ _ (Ne.symm hid), fun k hk => Below.heap_alloc w ob _ (hh.mine _ _ _ h1 hk).1⟩⟩
 ·intro id u h1
  by_cases hid : id = x
  ·subst hid
   rw [gv_new hl] at h1
   obtain rfl := Option.some.inj h1
   refine .inr ⟨rfl, fun k hk => .inl ?_⟩
   have hk := Blk.eq hv hk
   subst hk
   exact ⟨Nat.le_refl _, by simp⟩
  ·rw [gv_old hid] at h1
   exact .inl h1
theorem new_touch {cx : Cx} {h : Heap} {g : Nat → Value} {x : Nat} {w : World} (hh : HRep cx g h x w) (ob : Obj) {o : O} {v : Value} (hl : o.live = true) (hv : blk v = some w.heap.size) : Touch [] h g x w ((x, o) :: h) (setG g x v) (w.alloc ob) :=
 ⟨fun k hk _ => Below.heap_alloc w ob _ hk, fun id u k hx h1 h2 => by
  by_cases hid : id = x
  ·subst hid
   rw [gv_new hl] at h1
   obtain rfl := Option.some.inj h1
   have h2 := Blk.eq hv h2
   exact .inl (by omega)
  ·rw [gv_old hid] at h1
   exact absurd (hh.obj _ _ h1).1 (by omega)⟩
section
variable {P : Program} {n : Nat} {cx : Cx} {st : St} {o : Oper} {E : List PanicEntry → St → Prop}
def flat : V → List V
 | .agg cs => cs
 | v => [v]
theorem flat_rep {R : Addr → Value → Prop} {gv : Nat → Option Value} {x : Nat} {v : V} {m : Value} (h : VRep R gv x v m) (hs : (flat v).all V.single = true) :
  m.cells.size = (flat v).length ∧ (∀ u ∈ m.cells, u.oneCell' = true) ∧ ∀ (i : Nat) (c : V) (u : Value), (flat v)[i]? = some c → m.cells[i]? = some u → VRep R gv x c u := by
 have key : v.single = true → m.cells = #[m] := fun hv => by
  have := h.one hv
  cases m <;> first | rfl | cases this
 have hone : flat v = [v] → v.single = true := fun e => by rw [e] at hs; simpa using hs
 by_cases hf : flat v = [v]
 ·have hv := hone hf
  rw [key hv, hf]
  refine ⟨rfl, fun u hu => by simp at hu; subst hu; exact h.one hv, fun i c u hc hu => ?_⟩
  cases i with
  | zero => simp at hc hu; subst hc; subst hu; exact h
  | succ i => simp at hc
 ·cases v <;> first | exact absurd rfl hf | skip
  rename_i cs
  cases h with
  | agg _ ms h1 h2 =>
   refine ⟨h1, fun u hu => ?_, h2⟩
   obtain ⟨i, hi, rfl⟩ := Array.mem_iff_getElem.1 hu
   have hi' : i < cs.length := by rw [← h1]; exact hi
   have hc : cs[i]? = some cs[i] := List.getElem?_eq_getElem hi'
   have := h2 i _ _ hc (Array.getElem?_eq_getElem hi)
   exact this.one (List.all_eq_true.1 hs _ (List.getElem_mem hi'))
theorem VOp.of_new {v : V} {mo : O} (hl : mo.live = true) (hv : ∀ (R : Addr → Value → Prop) (gv : Nat → Option Value) (u : Value), gv st.x = some u → (blk u).isSome = true → VRep R gv (st.x + 1) v u)
  (h : ∀ g a w, Rep n cx g st a w → ∃ ob u, (execOp a.eval o).run P w = .ok (.value u) (w.alloc ob) ∧ blk u = some w.heap.size ∧ ORep (Rd cx.z ((st.x, mo) :: st.h) (setG g st.x u) (w.alloc ob)) (gvOf ((st.x, mo) :: st.h) (setG g st.x u)) (st.x + 1) (w.alloc ob) mo u) :
  VOp P n cx [] o (fun v' h' x' => v' = v ∧ h' = (st.x, mo) :: st.h ∧ x' = st.x + 1) E st := fun g a w r Kc Q hk _ => by
 obtain ⟨ob, u, hrun, hb, ho⟩ := h g a w r
 unfold Oper.wp
 rw [hrun, Oper.upon_value]
 exact hk _ v u _ _ _ ⟨rfl, rfl, rfl⟩ (r.h.new ob hl hb ho) (hv _ _ _ (gv_new hl) (by rw [hb]; rfl)) (new_next r.h ob hl hb) (new_touch r.h ob hl hb)
theorem cells_new {g : Nat → Value} {w : World} {a : Act} (r : Rep n cx g st a w) {t : TypeId} {cs : List V} {ms : Array Value} (h1 : ms.size = cs.length) (h2 : ∀ m ∈ ms, m.oneCell' = true) (h3 : ∀ (i : Nat) (c : V) (m : Value), cs[i]? = some c → ms[i]? = some m → VRep (Rd cx.z st.h g w) (gvOf st.h g) st.x c m) :
  ORep (Rd cx.z ((st.x, .cells t cs) :: st.h) (setG g st.x (.pointer (some ⟨w.heap.size, 0, none⟩))) (w.alloc (.cells ms t (0, 0)))) (gvOf ((st.x, .cells t cs) :: st.h) (setG g st.x (.pointer (some ⟨w.heap.size, 0, none⟩)))) (st.x + 1) (w.alloc (.cells ms t (0, 0))) (.cells t cs) (.pointer (some ⟨w.heap.size, 0, none⟩)) :=
 .cells t cs w.heap.size ms (heap_alloc_new w _) h1 h2 (fun i c m hc hm => (new_next r.h (.cells ms t (0, 0)) (o := .cells t cs) (v := .pointer (some ⟨w.heap.size, 0, none⟩)) rfl rfl).v (h3 i c m hc hm))
theorem ptr_new {R : Addr → Value → Prop} {gv : Nat → Option Value} {x : Nat} {u : Value} (h : gv x = some u) (hu : (∃ b, u = .pointer (some ⟨b, 0, none⟩))) : VRep R gv (x + 1) (.ptr x 0) u := by
 obtain ⟨b, rfl⟩ := hu
 exact .ptr _ _ _ (Nat.lt_succ_self _) rfl (fun b' hb => by rw [h] at hb; exact Option.some.inj hb)
theorem VOp.alloc {t : TypeId} {d : TypeDesc} {s b : Nat} {z : Value} (ho : o.op = .alloc t) [ht : TI P t d s b z] (hz : z.cells.all Value.oneCell' = true) :
  VOp P n cx [] o (fun v' h' x' => v' = .ptr st.x 0 ∧ h' = (st.x, .cells t (z.cells.toList.map .val)) :: st.h ∧ x' = st.x + 1) E st := fun g a w r Kc Q hk _ => by
 have hrun : (execOp a.eval o).run P w = .ok (.value (.pointer (some ⟨w.heap.size, 0, none⟩))) (w.alloc (.cells z.cells t (0, 0))) := by
  unfold execOp; rw [ho]
  simp [Instr.alloc, ht.run_zero, newVar, newRow]
 have hone : ∀ m ∈ z.cells, m.oneCell' = true := fun m hm => Array.all_eq_true'.1 hz m hm
 have hor := cells_new r (t := t) (cs := z.cells.toList.map .val) (ms := z.cells) (by simp) hone (fun i c m hc hm => by
  rw [List.getElem?_map, Array.getElem?_toList, hm] at hc
  obtain rfl := Option.some.inj hc
  exact .val _ (hone _ (Array.mem_of_getElem? hm)))
 unfold Oper.wp
 rw [hrun, Oper.upon_value]
 exact hk _ _ _ _ _ _ ⟨rfl, rfl, rfl⟩ (r.h.new _ rfl rfl hor) (ptr_new (gv_new rfl) ⟨_, rfl⟩) (new_next r.h _ rfl rfl) (new_touch r.h _ rfl rfl)
theorem VOp.box {t : TypeId} {x : Operand} {v : V} (ho : o.op = .box t x) (hx : ev st.s x = some v) (hs : (flat v).all V.single = true) :
  VOp P n cx [] o (fun v' h' x' => v' = .ptr st.x 0 ∧ h' = (st.x, .cells t (flat v)) :: st.h ∧ x' = st.x + 1) E st := fun g a w r Kc Q hk _ => by
 obtain ⟨h1, h2, h3⟩ := flat_rep (ev_rep r hx) hs
 have hrun : (execOp a.eval o).run P w = .ok (.value (.pointer (some ⟨w.heap.size, 0, none⟩))) (w.alloc (.cells (a.eval x).cells t (0, 0))) := by
  unfold execOp; rw [ho]
  simp [Instr.box, newVar, newRow]
 have hor := cells_new r (t := t) h1 h2 h3
 unfold Oper.wp
 rw [hrun, Oper.upon_value]
 exact hk _ _ _ _ _ _ ⟨rfl, rfl, rfl⟩ (r.h.new _ rfl rfl hor) (ptr_new (gv_new rfl) ⟨_, rfl⟩) (new_next r.h _ rfl rfl) (new_touch r.h _ rfl rfl)
end
end Go.Proofs.Ytfjfbapiheehaaa.V
namespace Go.Proofs.Ytfjfbapiheehaaa.V
open Go Go.RowKit Go.Proofs.YtfjfbapiheehaaaW.PrintWords
theorem gv_change {h : Heap} {g : Nat → Value} {id i : Nat} {o o' : O} (hh : lk h id = some o) (hl : o.live = true) (hl' : o'.live = true) : gvOf ((id, o') :: h) g i = gvOf h g i := by
 unfold gvOf
 by_cases hi : i = id
 ·subst hi; rw [lk_same, hh]; simp [hl, hl']
 ·rw [lk_other _ _ (Ne.symm hi)]
section
variable {cx : Cx} {h : Heap} {g : Nat → Value} {x : Nat} {w w' : World} {id b : Nat} {o o' : O} {v : Value}
theorem change_next (hh : HRep cx g h x w) (hk : lk h id = some o) (hl : o.live = true) (hl' : o'.live = true) (hg : gvOf h g id = some v) (hb : Blk v b) (hs : w.heap.size ≤ w'.heap.size) (hw : ∀ k, k ≠ b → w'.heap[k]? = w.heap[k]?) : Next h g x w ((id, o') :: h) g x w' := by
 have hgv := fun i => gv_change (g := g) (i := i) (o' := o') hk hl hl'
 refine ⟨⟨hs, fun k _ ⟨i, u, h1, h2⟩ => ⟨i, u, by rw [← hgv]; exact h1, h2⟩, fun k hlt hno => hw k (fun e => hno ⟨id, v, hg, by rw [e]; exact hb⟩)⟩, fun i u _ h1 => by rw [← hgv]; exact h1, Nat.le_refl _⟩
theorem HRep.change (hh : HRep cx g h x w) (hk : lk h id = some o) (hl : o.live = true) (hl' : o'.live = true) (hg : gvOf h g id = some v) (hb : Blk v b) (hs : w.heap.size ≤ w'.heap.size) (hw : ∀ k, k ≠ b → w'.heap[k]? = w.heap[k]?)
  (os : w'.os = w.os) (tape : w'.tape = w.tape) (out : w'.output = w.output) (ho : ORep (Rd cx.z ((id, o') :: h) g w') (gvOf ((id, o') :: h) g) x w' o' v) : HRep cx g ((id, o') :: h) x w' := by
 have hgv := fun i => gv_change (g := g) (i := i) (o' := o') hk hl hl'
 refine hh.upd (change_next hh hk hl hl' hg hb hs hw) os tape out (fun i u h1 => ?_) (fun i u h1 => .inl (by rw [← hgv]; exact h1))
 have h1' : gvOf h g i = some u := by rw [← hgv]; exact h1
 refine ⟨(hh.obj _ _ h1').1, ?_⟩
 by_cases hi : i = id
 ·subst hi
  rw [hg] at h1'
  obtain rfl := Option.some.inj h1'
  exact .inr ⟨o', lk_same _ _ _, ho⟩
 ·refine .inl ⟨h1', lk_other _ _ (Ne.symm hi), fun k hk' => hw k (fun e => ?_)⟩
  subst e
  exact hi (hh.apart _ _ _ _ _ h1' hg hk' hb)
theorem change_touch (hh : HRep cx g h x w) (hk : lk h id = some o) (hl : o.live = true) (hl' : o'.live = true) (hg : gvOf h g id = some v) (hb : Blk v b) (hw : ∀ k, k ≠ b → w'.heap[k]? = w.heap[k]?) : Touch [id] h g x w ((id, o') :: h) g w' := by
 have hgv := fun i => gv_change (g := g) (i := i) (o' := o') hk hl hl'
 refine ⟨fun k _ hno => hw k (fun e => hno id (by simp) v hg (by rw [e]; exact hb)), fun i u k hx h1 _ => ?_⟩
 rw [hgv] at h1
 exact absurd (hh.obj _ _ h1).1 (by omega)
end
def splice {α : Type} (cs : List α) (off : Nat) (vs : List α) : List α := cs.take off ++ vs ++ cs.drop (off + vs.length)
theorem splice_length {α : Type} {cs vs : List α} {off : Nat} (h : off + vs.length ≤ cs.length) : (splice cs off vs).length = cs.length := by
 simp [splice]; omega
theorem splice_get {α : Type} {cs vs : List α} {off : Nat} (h : off + vs.length ≤ cs.length) (i : Nat) : (splice cs off vs)[i]? = if off ≤ i ∧ i < off + vs.length then vs[i - off]? else cs[i]? := by
 have hm : min off cs.length = off := by omega
 unfold splice
 rw [List.append_assoc, List.getElem?_append, List.length_take, hm]
 by_cases h1 : i < off
 ·rw [if_pos h1, if_neg (by omega), List.getElem?_take, if_pos h1]
 ·rw [if_neg h1, List.getElem?_append]
  by_cases h2 : i - off < vs.length
  ·rw [if_pos h2, if_pos (by omega)]
  ·rw [if_neg h2, if_neg (by omega), List.getElem?_drop]
   congr 1; omega
theorem splice_take {α : Type} {cs vs : List α} {off n : Nat} (h : off + vs.length ≤ n) (hn : n ≤ cs.length) : (splice cs off vs).take n = splice (cs.take n) off vs := by
 apply List.ext_getElem?
 intro i
 rw [List.getElem?_take, splice_get (by omega), splice_get (by rw [List.length_take]; omega), List.getElem?_take]
 by_cases h1 : i < n
 ·rw [if_pos h1, if_pos h1]
 ·rw [if_neg h1, if_neg h1, if_neg (by omega)]
section
variable {P : Program} {n : Nat} {cx : Cx} {st : St} {o : Oper} {E : List PanicEntry → St → Prop}
theorem run_store {t : TypeId} {d : TypeDesc} {s b : Nat} {z : Value} (ht : TI P t d s b z) {bb off : Nat} {t' : TypeId} {cur : Array Value} {w : World} {v : Value} (hg : w.heap[bb]? = some (.cells cur t' (0, 0))) (hv : v.cells.size = s) (h1 : ∀ u ∈ v.cells, u.oneCell' = true) (hl : off + s ≤ cur.size) :
  (Instr.storeAt t (.pointer (some ⟨bb, off, none⟩)) v).run P w = .ok () (w.setRow bb (splice cur.toList off v.cells.toList).toArray) := by
 unfold Instr.storeAt storeVar
 have hst := run_storeCells_at P bb off t' v.cells.toList 0 cur w hg (by simpa [hv] using hl) (fun u hu => h1 u (Array.mem_toList_iff.1 hu))
 simp only [Nat.add_zero] at hst
 simp [Instr.sureAddr, ht.run_size, hv, hst, splice]
theorem VOp.store {t t' : TypeId} {p x : Operand} {id off : Nat} {cs : List V} {v : V} {d : TypeDesc} {s b : Nat} {z : Value} (ho : o.op = .store t p x) (hp : ev st.s p = some (.ptr id off)) (hx : ev st.s x = some v) (hh : lk st.h id = some (.cells t' cs)) [ht : TI P t d s b z]
  (hs : (flat v).all V.single = true) (hl : (flat v).length = s) (hin : off + s ≤ cs.length) :
  VOp P n cx [id] o (fun v' h' x' => v' = .junk ∧ h' = (id, .cells t' (splice cs off (flat v))) :: st.h ∧ x' = st.x) E st := fun g a w r Kc Q hk _ => by
 have h1 := ev_rep r hp
 obtain ⟨f1, f2, f3⟩ := flat_rep (ev_rep r hx) hs
 obtain ⟨bb, ms, hgv, hb, hsz, h1c, hrep⟩ := r.box hh
 generalize he : a.eval p = mm at h1
 cases h1 with
 | ptr _ _ _ h2 h0 h3 =>
  have hm' := h3 _ hgv
  subst hm'
  have hcell : (a.eval x).cells.size = s := by rw [f1]; exact hl
  have hrun := run_store ht hb hcell f2 (by rw [hsz]; exact hin)
  have hw : ∀ k, k ≠ bb → (w.setRow bb (splice ms.toList off (a.eval x).cells.toList).toArray).heap[k]? = w.heap[k]? := fun k hne => setRow_other w bb k _ hne
  have hnx := change_next (o' := .cells t' (splice cs off (flat v))) r.h hh rfl rfl hgv (.inl rfl) (by simp) hw
  have hlen : off + (flat v).length ≤ cs.length := by rw [hl]; exact hin
  have hlen2 : off + (a.eval x).cells.toList.length ≤ ms.toList.length := by simp [hcell, hsz]; exact hin
  unfold Oper.wp execOp
  rw [ho]
  simp only [he, Sem.run_bind, hrun, Result.andThen, Sem.run_pure, Oper.upon_skip]
  refine hk g .junk undef _ st.x _ ⟨rfl, rfl, rfl⟩ (r.h.change hh rfl rfl hgv (.inl rfl) (by simp) hw rfl rfl rfl ?_) (.junk _) hnx (change_touch r.h hh rfl rfl hgv (.inl rfl) hw)
  refine .cells t' _ bb _ (setRow_heap w bb ms _ t' _ hb) ?_ ?_ ?_
  ·rw [List.size_toArray, splice_length hlen2, splice_length hlen]; simpa using hsz
  ·intro m hm
   have hm : m ∈ splice ms.toList off (a.eval x).cells.toList := by simpa using hm
   simp only [splice, List.mem_append] at hm
   rcases hm with (hm | hm) | hm
   ·exact h1c m (Array.mem_toList_iff.1 (List.mem_of_mem_take hm))
   ·exact f2 m (Array.mem_toList_iff.1 hm)
   ·exact h1c m (Array.mem_toList_iff.1 (List.mem_of_mem_drop hm))
  ·intro i c m hc hm
   rw [List.getElem?_toArray, splice_get hlen2] at hm
   rw [splice_get hlen] at hc
   have hll : (a.eval x).cells.toList.length = (flat v).length := by simpa using f1
   rw [hll] at hm
   split at hc
   ·rename_i hi
    rw [if_pos hi] at hm
    exact hnx.v (f3 _ c m hc (by simpa using hm))
   ·rename_i hi
    rw [if_neg hi] at hm
    exact hnx.v (hrep i c m hc (by simpa using hm))
def toDs : List V → Option (List D)
 | [] => some []
 | .val v :: cs => (toDs cs).map (D.val v :: ·)
 | .sl sz xs :: cs => (toDs cs).map (D.sl sz xs :: ·)
 | _ :: _ => none
theorem toDs_is {cs : List V} {ds : List D} (h : toDs cs = some ds) : cs = ds.map D.toV := by
 induction cs generalizing ds with
 | nil => obtain rfl := Option.some.inj h; rfl
 | cons c cs ih =>
  cases c <;> simp [toDs] at h
  all_goals
   obtain ⟨e, h1, rfl⟩ := h
   rw [ih h1]; rfl
theorem toDs_single {cs : List V} {ds : List D} (h : toDs cs = some ds) : cs.all V.single = true := by
 rw [toDs_is h, List.all_eq_true]
 intro v hv
 obtain ⟨d, _, rfl⟩ := List.mem_map.1 hv
 exact D.single d
theorem DRep.of_V {R : Addr → Value → Prop} {gv : Nat → Option Value} {x : Nat} {d : D} {m : Value} (h : VRep R gv x d.toV m) : DRep R d m := by
 cases d with
 | val v => cases h with | val _ h => exact .val _ h
 | sl sz xs => cases h with | sl _ _ _ h => exact h
theorem VOp.store_arr {t e' : TypeId} {p x : Operand} {id pos i j sz : Nat} {xs : List (List D)} {row ds : List D} {v : V} {d : TypeDesc} {s b : Nat} {z : Value} (ho : o.op = .store t p x) (hp : ev st.s p = some (.ael id pos)) (hx : ev st.s x = some v) (hh : lk st.h id = some (.arr e' sz xs)) (hpos : pos = i * sz + j) (hrow : xs[i]? = some row) [ht : TI P t d s b z]
  (hds : toDs (flat v) = some ds) (hl : (flat v).length = s) (hin : j + s ≤ sz) :
  VOp P n cx [id] o (fun v' h' x' => v' = .junk ∧ h' = (id, .arr e' sz (xs.set i (splice row j ds))) :: st.h ∧ x' = st.x) E st := fun g a w r Kc Q hk _ => by
 have h1 := ev_rep r hp
 obtain ⟨f1, f2, f3⟩ := flat_rep (ev_rep r hx) (toDs_single hds)
 obtain ⟨v0, ms, hgv, e1, e2, e3, e4, e5⟩ := r.arr hh
 have hi : i < xs.length := (List.getElem?_eq_some_iff.1 hrow).1
 generalize he : a.eval p = mm at h1
 cases h1 with
 | ael _ _ _ h2 h0 h3 =>
  rcases e1.2 with ⟨rfl, h0'⟩ | ⟨bb, cap, cur, hv, hb0, hb, hnc, hcm, hcs, htake⟩
  ·omega
  ·subst hv
   have hm' := h3 _ _ _ _ hgv rfl
   subst hm'
   have hcell : (a.eval x).cells.size = s := by rw [f1]; exact hl
   have hdl : ds.length = s := by have := congrArg List.length (toDs_is hds); rw [List.length_map] at this; omega
   have hrl : row.length = sz := e2 row (List.mem_of_getElem? hrow)
   have hadd : (⟨bb, 0, none⟩ : Addr).add pos = ⟨bb, pos, none⟩ := by unfold Addr.add; split <;> simp_all
   have hpn : pos + s ≤ xs.length * sz := by
    rw [hpos]
    have : (i + 1) * sz ≤ xs.length * sz := Nat.mul_le_mul_right _ hi
    rw [Nat.add_mul, Nat.one_mul] at this
    omega
   have hcurn : xs.length * sz ≤ cur.size := by rw [hcs]; exact Nat.mul_le_mul_right _ hnc
   have hrun := run_store (off := pos) ht hb hcell f2 (by omega)
   have hw : ∀ k, k ≠ bb → (w.setRow bb (splice cur.toList pos (a.eval x).cells.toList).toArray).heap[k]? = w.heap[k]? := fun k hne => setRow_other w bb k _ hne
   have hnx := change_next (o' := .arr e' sz (xs.set i (splice row j ds))) r.h hh rfl rfl hgv (.inl rfl) (by simp) hw
   have hml : ms.length = xs.length * sz := e1.1
   have hvl : (a.eval x).cells.toList.length = s := by simpa using hcell
   have htk : (splice cur.toList pos (a.eval x).cells.toList).take (xs.length * sz) = splice ms pos (a.eval x).cells.toList := by
    rw [splice_take (by rw [hvl]; exact hpn) (by simpa using hcurn), htake]
   unfold Oper.wp execOp
   rw [ho]
   simp only [he, hadd, Sem.run_bind, hrun, Result.andThen, Sem.run_pure, Oper.upon_skip]
   refine hk g .junk undef _ st.x _ ⟨rfl, rfl, rfl⟩ (r.h.change hh rfl rfl hgv (.inl rfl) (by simp) hw rfl rfl rfl ?_) (.junk _) hnx (change_touch r.h hh rfl rfl hgv (.inl rfl) hw)
   refine .arr e' sz _ _ (splice ms pos (a.eval x).cells.toList) ⟨?_, .inr ⟨bb, cap, _, ?_, hb0, setRow_heap w bb cur _ e' _ hb, ?_, hcm, ?_, ?_⟩⟩ ?_ ?_ ?_ ?_
   ·rw [splice_length (by rw [hvl, hml]; exact hpn), hml]; simp
   ·simp
   ·simpa using hnc
   ·rw [List.size_toArray, splice_length (by rw [hvl]; simp; omega)]; simpa using hcs
   ·rw [List.length_set]; simpa using htk
   ·intro q hq
    rcases List.mem_or_eq_of_mem_set hq with hq | rfl
    ·exact e2 q hq
    ·rw [splice_length (by omega)]; exact hrl
   ·simpa using e3
   ·intro m hm
    simp only [splice, List.mem_append] at hm
    rcases hm with (hm | hm) | hm
    ·exact e4 m (List.mem_of_mem_take hm)
    ·exact f2 m (Array.mem_toList_iff.1 hm)
    ·exact e4 m (List.mem_of_mem_drop hm)
   ·intro i' j' c hc
    obtain ⟨row', hr', hj'⟩ := Option.bind_eq_some_iff.1 hc
    have hj'' : j' < sz := by
     have hmem := List.mem_of_getElem? hr'
     have hrl' : row'.length = sz := by
      rcases List.mem_or_eq_of_mem_set hmem with hq | rfl
      ·exact e2 row' hq
      ·rw [splice_length (by omega)]; exact hrl
     have := (List.getElem?_eq_some_iff.1 hj').1
     omega
    rw [splice_get (by rw [hvl, hml]; exact hpn), hvl]
    rw [List.getElem?_set] at hr'
    by_cases hii : i = i'
    ·subst hii
     rw [if_pos rfl, if_pos hi] at hr'
     obtain rfl := Option.some.inj hr'
     rw [splice_get (by omega), hdl] at hj'
     split at hj'
     ·rename_i hjj
      rw [if_pos (by omega)]
      have hV : (flat v)[j' - j]? = some c.toV := by rw [toDs_is hds, List.getElem?_map, hj']; rfl
      have hlt : j' - j < (a.eval x).cells.size := by omega
      refine ⟨(a.eval x).cells[j' - j], ?_, ?_⟩
      ·rw [show i * sz + j' - pos = j' - j from by omega, Array.getElem?_toList, Array.getElem?_eq_getElem hlt]
      ·exact DRep.of_V (hnx.v (f3 _ _ _ hV (Array.getElem?_eq_getElem hlt)))
     ·rename_i hjj
      rw [if_neg (by omega)]
      obtain ⟨m, hm, hd⟩ := e5 i j' c (by rw [hrow]; exact hj')
      exact ⟨m, hm, hd.mono hnx.m.rd⟩
    ·rw [if_neg hii] at hr'
     obtain ⟨m, hm, hd⟩ := e5 i' j' c (by rw [hr']; exact hj')
     refine ⟨m, ?_, hd.mono hnx.m.rd⟩
     rw [if_neg]
     ·exact hm
     ·rintro ⟨q1, q2⟩
      rcases Nat.lt_or_gt_of_ne hii with hlt | hlt
      ·have : (i + 1) * sz ≤ i' * sz := Nat.mul_le_mul_right _ hlt
       rw [Nat.add_mul, Nat.one_mul] at this
       omega
      ·have : (i' + 1) * sz ≤ i * sz := Nat.mul_le_mul_right _ hlt
       rw [Nat.add_mul, Nat.one_mul] at this
       omega
end
end Go.Proofs.Ytfjfbapiheehaaa.V
namespace Go.Proofs.Ytfjfbapiheehaaa.V
open Go Go.RowKit Go.Proofs.YtfjfbapiheehaaaW.PrintWords
def RelA (R : Addr → Value → Prop) (gv : Nat → Option Value) (x : Nat) (cs : List V) (ms : Array Value) : Prop := ms.size = cs.length ∧ (∀ m ∈ ms, m.oneCell' = true) ∧ ∀ (i : Nat) (c : V) (m : Value), cs[i]? = some c → ms[i]? = some m → VRep R gv x c m
theorem foldl_fill (l : List Value) : ∀ (k off : Nat) (ms : Array Value), off + k + l.length ≤ ms.size → ((l.zipIdx k).foldl (fun cs (p : Value × Nat) => cs.setIfInBounds (off + p.2) p.1) ms) = (splice ms.toList (off + k) l).toArray := by
 induction l with
 | nil => intro k off ms h; simp [splice]
 | cons v l ih =>
  intro k off ms h
  simp only [List.length_cons] at h
  rw [List.zipIdx_cons, List.foldl_cons, ih (k + 1) off _ (by simp; omega)]
  congr 1
  apply List.ext_getElem?
  intro i
  rw [splice_get (by simp; omega), splice_get (by simp; omega)]
  simp only [List.length_cons, Array.getElem?_toList, Array.getElem?_setIfInBounds]
  by_cases h1 : off + k = i
  ·subst h1
   rw [if_neg (by omega), if_pos rfl, if_pos (by omega), if_pos (by omega), Nat.sub_self]; rfl
  ·by_cases h2 : off + (k + 1) ≤ i ∧ i < off + (k + 1) + l.length
   ·rw [if_pos h2, if_pos (by omega)]
    have : i - (off + k) = (i - (off + (k + 1))) + 1 := by omega
    rw [this]; rfl
   ·rw [if_neg h2, if_neg h1, if_neg (by omega)]
def fillV (place : Nat → Option (Nat × Nat)) (cells : List V) : List (Nat × V) → Option (List V)
 | [] => some cells
 | (i, v) :: rest => match place i with
  | none => none
  | some (off, size) => if (flat v).all V.single && Nat.beq (flat v).length size && Nat.ble (off + size) cells.length then fillV place (splice cells off (flat v)) rest else none
inductive PRep (R : Addr → Value → Prop) (gv : Nat → Option Value) (x : Nat) : List (Nat × V) → List (Nat × Value) → Prop
 | nil : PRep R gv x [] []
 | cons {i : Nat} {v : V} {m : Value} {ps : List (Nat × V)} {qs : List (Nat × Value)} : VRep R gv x v m → PRep R gv x ps qs → PRep R gv x ((i, v) :: ps) ((i, m) :: qs)
theorem fill_rep {R : Addr → Value → Prop} {gv : Nat → Option Value} {x : Nat} {place : Nat → Option (Nat × Nat)} {ps : List (Nat × V)} {qs : List (Nat × Value)} (hp : PRep R gv x ps qs) : ∀ {cs cs' : List V} {ms : Array Value}, RelA R gv x cs ms → fillV place cs ps = some cs' → ∃ ms', Instr.fill place ms qs = some ms' ∧ RelA R gv x cs' ms' := by
 induction hp with
 | nil => intro cs cs' ms h1 h2; obtain rfl := Option.some.inj h2; exact ⟨ms, rfl, h1⟩
 | @cons i v m ps qs hv _ ih =>
  intro cs cs' ms h1 h2
  simp only [fillV] at h2
  simp only [Instr.fill]
  cases hpl : place i with
  | none => rw [hpl] at h2; cases h2
  | some q =>
   obtain ⟨off, size⟩ := q
   rw [hpl] at h2
   simp only at h2 ⊢
   split at h2
   ·rename_i hc
    simp only [Bool.and_eq_true] at hc
    obtain ⟨⟨c1, c2⟩, c3⟩ := hc
    have c2 := Nat.eq_of_beq_eq_true c2
    have c3 := Nat.le_of_ble_eq_true c3
    obtain ⟨f1, f2, f3⟩ := flat_rep hv c1
    have hsz : m.cells.size = size := by rw [f1, c2]
    have hb : (m.cells.size ≠ size || decide (off + m.cells.size > ms.size)) = false := by
     simp [hsz, h1.1]; exact c3
    have hb' : ¬ ((decide (m.cells.size ≠ size) || decide (off + m.cells.size > ms.size)) = true) := by
     simp [hsz, h1.1]; exact c3
    rw [if_neg hb']
    have hfo := foldl_fill m.cells.toList 0 off ms (by simp [hsz, h1.1]; exact c3)
    have hz : m.cells.zipIdx.foldl (fun cs (p : Value × Nat) => cs.setIfInBounds (off + p.2) p.1) ms = (splice ms.toList off m.cells.toList).toArray := by
     rw [← Array.foldl_toList, Array.toList_zipIdx]
     simpa using hfo
    have hz' : (m.cells.zipIdx.foldl (fun cs x => match x with | (c, j) => cs.setIfInBounds (off + j) c) ms) = (splice ms.toList off m.cells.toList).toArray := hz
    rw [hz']
    refine ih ⟨?_, ?_, ?_⟩ h2
    ·rw [List.size_toArray, splice_length (by simp [hsz, h1.1]; exact c3), splice_length (by rw [c2]; exact c3)]; simpa using h1.1
    ·intro u hu
     have hu : u ∈ splice ms.toList off m.cells.toList := by simpa using hu
     simp only [splice, List.mem_append] at hu
     rcases hu with (hu | hu) | hu
     ·exact h1.2.1 u (Array.mem_toList_iff.1 (List.mem_of_mem_take hu))
     ·exact f2 u (Array.mem_toList_iff.1 hu)
     ·exact h1.2.1 u (Array.mem_toList_iff.1 (List.mem_of_mem_drop hu))
    ·intro k c u hc hu
     rw [List.getElem?_toArray, splice_get (by simp [hsz, h1.1]; exact c3)] at hu
     rw [splice_get (by rw [c2]; exact c3)] at hc
     have hll : m.cells.toList.length = (flat v).length := by simpa using f1
     rw [hll] at hu
     split at hc
     ·rename_i hi
      rw [if_pos hi] at hu
      exact f3 _ c u hc (by simpa using hu)
     ·rename_i hi
      rw [if_neg hi] at hu
      exact h1.2.2 k c u hc (by simpa using hu)
   ·cases h2
theorem relA_zero {R : Addr → Value → Prop} {gv : Nat → Option Value} {x : Nat} {ms : Array Value} (h : ms.all Value.oneCell' = true) : RelA R gv x (ms.toList.map .val) ms := by
 have hone : ∀ m ∈ ms, m.oneCell' = true := fun m hm => Array.all_eq_true'.1 h m hm
 refine ⟨by simp, hone, fun i c m hc hm => ?_⟩
 rw [List.getElem?_map, Array.getElem?_toList, hm] at hc
 obtain rfl := Option.some.inj hc
 exact .val _ (hone _ (Array.mem_of_getElem? hm))
def evParts (s : List (Nat × V)) : List (Nat × Operand) → Option (List (Nat × V))
 | [] => some []
 | (i, x) :: ps => match ev s x, evParts s ps with
  | some v, some qs => some ((i, v) :: qs)
  | _, _ => none
section
variable {P : Program} {n : Nat} {cx : Cx} {st : St} {o : Oper} {E : List PanicEntry → St → Prop}
theorem parts_rep {g : Nat → Value} {a : Act} {w : World} (r : Rep n cx g st a w) : ∀ {ps : List (Nat × Operand)} {qs : List (Nat × V)}, evParts st.s ps = some qs → PRep (Rd cx.z st.h g w) (gvOf st.h g) st.x qs (ps.map fun p => (p.1, a.eval p.2)) := by
 intro ps
 induction ps with
 | nil => intro qs h; obtain rfl := Option.some.inj h; exact .nil
 | cons p ps ih =>
  intro qs h
  obtain ⟨i, x⟩ := p
  simp only [evParts] at h
  cases h1 : ev st.s x with
  | none => rw [h1] at h; cases h
  | some v =>
   cases h2 : evParts st.s ps with
   | none => rw [h1, h2] at h; cases h
   | some qs' =>
    rw [h1, h2] at h
    obtain rfl := Option.some.inj h
    exact .cons (ev_rep r h1) (ih h2)
def placesOf (P : Program) (fs : List Field) : Option (List (Nat × Nat)) := fs.mapM fun f => (P.info? f.type).map fun i => (f.offset, i.size)
theorem VPure.build {t : TypeId} {fs : Array Field} {s b : Nat} {z : Value} {parts : Array (Nat × Operand)} {qs : List (Nat × V)} {pl : List (Nat × Nat)} {cs : List V} (ho : o.op = .build t parts) [ht : TI P t (.struct fs) s b z] (hz : z.cells.all Value.oneCell' = true) (hpl : placesOf P fs.toList = some pl)
  (hq : evParts st.s parts.toList = some qs) (hf : fillV (pl.toArray[·]?) (z.cells.toList.map .val) qs = some cs) : VPure P n cx o st (.agg cs) := fun g a w r => by
 obtain ⟨ms, h1, h2⟩ := fill_rep (parts_rep r hq) (relA_zero hz) hf
 refine ⟨.agg ms, .agg cs ms h2.1 h2.2.2, fun w' => ?_⟩
 obtain ⟨i, hi, _, _, hiz⟩ := ht.info
 have hb : P.built t (parts.map fun (i, x) => (i, a.eval x)).toList = some ms := by
  unfold Program.built
  rw [hi, ht.und]
  simp only [hiz]
  unfold placesOf at hpl
  rw [hpl]
  simp only
  have : (parts.map fun (i, x) => (i, a.eval x)).toList = parts.toList.map fun p => (p.1, a.eval p.2) := by simp
  rw [this]
  exact h1
 unfold execOp; rw [ho]
 have hr := run_build (P := P) w' t (parts.map fun (i, x) => (i, a.eval x)) ms hb
 simp only [Sem.run_bind, hr]
 rfl
structure RowsM (R : Addr → Value → Prop) (sz : Nat) (xs : List (List D)) (ms : List Value) : Prop where
 len : ms.length = xs.length * sz
 row : ∀ r ∈ xs, r.length = sz
 one : ∀ m ∈ ms, m.oneCell' = true
 rep : ∀ (i j : Nat) (d : D), (xs[i]?).bind (·[j]?) = some d → ∃ m, ms[i * sz + j]? = some m ∧ DRep R d m
theorem RowsM.append {R : Addr → Value → Prop} {sz : Nat} {xs ys : List (List D)} {ms ns : List Value} (h : RowsM R sz xs ms) (k : RowsM R sz ys ns) : RowsM R sz (xs ++ ys) (ms ++ ns) := by
 refine ⟨by rw [List.length_append, h.len, k.len, List.length_append, Nat.add_mul], ?_, ?_, ?_⟩
 ·intro r hr; rcases List.mem_append.1 hr with hr | hr
  ·exact h.row r hr
  ·exact k.row r hr
 ·intro m hm; rcases List.mem_append.1 hm with hm | hm
  ·exact h.one m hm
  ·exact k.one m hm
 ·intro i j d hd
  obtain ⟨r, hr, hj⟩ := Option.bind_eq_some_iff.1 hd
  rw [List.getElem?_append] at hr
  split at hr
  ·rename_i hi
   obtain ⟨m, hm, hdr⟩ := h.rep i j d (by rw [hr]; exact hj)
   refine ⟨m, ?_, hdr⟩
   rw [List.getElem?_append, if_pos (List.getElem?_eq_some_iff.1 hm).1]; exact hm
  ·rename_i hi
   obtain ⟨m, hm, hdr⟩ := k.rep (i - xs.length) j d (by rw [hr]; exact hj)
   refine ⟨m, ?_, hdr⟩
   have hle : xs.length * sz ≤ i * sz := Nat.mul_le_mul_right _ (by omega)
   rw [List.getElem?_append, if_neg (by rw [h.len]; omega), h.len]
   rw [Nat.sub_mul] at hm
   rw [show i * sz + j - xs.length * sz = i * sz - xs.length * sz + j from by omega]; exact hm
theorem RowsM.mono {R R' : Addr → Value → Prop} (hR : ∀ a v, R a v → R' a v) {sz : Nat} {xs : List (List D)} {ms : List Value} (h : RowsM R sz xs ms) : RowsM R' sz xs ms :=
 ⟨h.len, h.row, h.one, fun i j d hd => let ⟨m, hm, hdr⟩ := h.rep i j d hd; ⟨m, hm, hdr.mono hR⟩⟩
theorem RowsM.nil {R : Addr → Value → Prop} {sz : Nat} : RowsM R sz [] [] := ⟨by simp, (fun _ h => by cases h), (fun _ h => by cases h), (fun i j d h => by simp at h)⟩
inductive Src (h : Heap) : V → Nat → List (List D) → Prop
 | arr {id : Nat} {t : TypeId} {sz : Nat} {xs : List (List D)} : lk h id = some (.arr t sz xs) → Src h (.ref id) sz xs
 | sl {sz : Nat} {xs : List (List D)} : Src h (.sl sz xs) sz xs
 | nil {sz : Nat} : Src h (.val (.slice none 0 0)) sz []
theorem Src.rep {g : Nat → Value} {a : Act} {w : World} (r : Rep n cx g st a w) {v : V} {sz : Nat} {xs : List (List D)} (h : Src st.h v sz xs) {m : Value} (hv : VRep (Rd cx.z st.h g w) (gvOf st.h g) st.x v m) :
  xs.length ≤ most ∧ (m = .slice none 0 0 ∧ xs = [] ∨ (∃ A c, m = .slice A 0 c ∧ xs = []) ∨ ∃ ad c ms, m = .slice (some ad) xs.length c ∧ RowsM (Rd cx.z st.h g w) sz xs ms ∧ ∀ (j : Nat) (u : Value), ms[j]? = some u → w.cell? (ad.add j) = some u) := by
 cases h with
 | arr hh =>
  obtain ⟨v0, ms, hgv, e1, e2, e3, e4, e5⟩ := r.arr hh
  cases hv with
  | ref _ _ _ _ h3 =>
   have := h3 _ hgv
   subst this
   refine ⟨e3, ?_⟩
   rcases e1.2 with ⟨rfl, h0⟩ | ⟨b, cap, cur, hv, _⟩
   ·exact .inl ⟨rfl, List.eq_nil_of_length_eq_zero h0⟩
   ·subst hv
    exact .inr (.inr ⟨_, _, ms, rfl, ⟨e1.1, e2, e4, e5⟩, e1.cells (g := b) rfl⟩)
 | sl =>
  cases hv with
  | sl _ _ _ h =>
   cases h with
   | nil _ A c => exact ⟨Nat.zero_le _, .inr (.inl ⟨A, c, rfl, rfl⟩)⟩
   | sl _ _ ad c f e1 e2 e3 e4 e5 =>
    refine ⟨e2, .inr (.inr ⟨ad, c, List.ofFn (n := xs.length * sz) fun p => f (p.val / sz) (p.val % sz), rfl, ⟨by simp, e3, ?_, ?_⟩, ?_⟩)⟩
    ·intro u hu
     obtain ⟨⟨p, hp⟩, rfl⟩ := List.mem_ofFn.1 hu
     have hsz : 0 < sz := by
      rcases Nat.eq_zero_or_pos sz with h0 | h0
      ·rw [h0] at hp; simp at hp
      ·exact h0
     have hlt : p / sz < xs.length := Nat.div_lt_of_lt_mul (by rw [Nat.mul_comm]; exact hp)
     have hml := Nat.mod_lt p hsz
     have hrl := e3 _ (List.getElem_mem hlt)
     exact (e5 (p / sz) (p % sz) _ (by rw [List.getElem?_eq_getElem hlt]; exact List.getElem?_eq_getElem (by rw [hrl]; exact hml))).one
    ·intro i j d hd
     obtain ⟨row, hr, hj⟩ := Option.bind_eq_some_iff.1 hd
     have hi : i < xs.length := (List.getElem?_eq_some_iff.1 hr).1
     have hjl : j < sz := by have := (List.getElem?_eq_some_iff.1 hj).1; rw [e3 row (List.mem_of_getElem? hr)] at this; exact this
     have hp : i * sz + j < xs.length * sz := by
      have : (i + 1) * sz ≤ xs.length * sz := Nat.mul_le_mul_right _ hi
      rw [Nat.add_mul, Nat.one_mul] at this; omega
     refine ⟨f i j, ?_, e5 i j d hd⟩
     rw [List.getElem?_ofFn, dif_pos hp]
     have h1 : (i * sz + j) / sz = i := by
      rw [Nat.mul_comm, Nat.mul_add_div (by omega), Nat.div_eq_of_lt hjl, Nat.add_zero]
     have h2 : (i * sz + j) % sz = j := by
      rw [Nat.mul_comm, Nat.mul_add_mod, Nat.mod_eq_of_lt hjl]
     simp only [h1, h2]
    ·intro p u hu
     rw [List.getElem?_ofFn] at hu
     split at hu
     ·rename_i hp
      simp only [Option.some.injEq] at hu
      subst hu
      have hsz : 0 < sz := by
       rcases Nat.eq_zero_or_pos sz with h0 | h0
       ·rw [h0] at hp; simp at hp
       ·exact h0
      have hlt : p / sz < xs.length := Nat.div_lt_of_lt_mul (by rw [Nat.mul_comm]; exact hp)
      have hml := Nat.mod_lt p hsz
      have hrl := e3 _ (List.getElem_mem hlt)
      have := (e4 (p / sz) (p % sz) _ (by rw [List.getElem?_eq_getElem hlt]; exact List.getElem?_eq_getElem (by rw [hrl]; exact hml))).cell
      rw [show p / sz * sz + p % sz = p from by rw [Nat.mul_comm]; exact Nat.div_add_mod p sz] at this
      exact this
     ·cases hu
 | nil =>
  cases hv with
  | val => exact ⟨Nat.zero_le _, .inl ⟨rfl, rfl⟩⟩
end
end Go.Proofs.Ytfjfbapiheehaaa.V
namespace Go.Proofs.Ytfjfbapiheehaaa.V
open Go Go.RowKit Go.Proofs.YtfjfbapiheehaaaW.PrintWords
section
variable {P : Program} {n : Nat} {cx : Cx} {st : St} {o : Oper} {E : List PanicEntry → St → Prop}
theorem ref_new {R : Addr → Value → Prop} {gv : Nat → Option Value} {x : Nat} {u : Value} (h : gv x = some u) (hu : u.oneCell' = true) : VRep R gv (x + 1) (.ref x) u :=
 .ref _ _ (Nat.lt_succ_self _) hu (fun v hv => by rw [h] at hv; obtain rfl := Option.some.inj hv; exact (hdV_one hu).symm)
theorem row_new {g : Nat → Value} {a : Act} {w : World} (r : Rep n cx g st a w) {t : TypeId} {sz : Nat} {xs : List (List D)} {ms : List Value} {cap : Nat} {cur : Array Value} (hm : RowsM (Rd cx.z st.h g w) sz xs ms) (hx : xs.length ≤ most) (hcap : xs.length ≤ cap) (hcm : cap ≤ maxLen) (hcs : cur.size = cap * sz) (hcur : cur.toList.take (xs.length * sz) = ms) :
  ORep (Rd cx.z ((st.x, .arr t sz xs) :: st.h) (setG g st.x (.slice (some ⟨w.heap.size, 0, none⟩) xs.length cap)) (w.alloc (.cells cur t (0, 0)))) (gvOf ((st.x, .arr t sz xs) :: st.h) (setG g st.x (.slice (some ⟨w.heap.size, 0, none⟩) xs.length cap))) (st.x + 1) (w.alloc (.cells cur t (0, 0))) (.arr t sz xs) (.slice (some ⟨w.heap.size, 0, none⟩) xs.length cap) := by
 have nx := new_next r.h (.cells cur t (0, 0)) (o := .arr t sz xs) (v := .slice (some ⟨w.heap.size, 0, none⟩) xs.length cap) rfl rfl
 have hm' := hm.mono nx.m.rd
 exact .arr t sz xs _ ms ⟨hm.len, .inr ⟨_, cap, cur, rfl, Nat.zero_le _, heap_alloc_new w _, hcap, hcm, hcs, hcur⟩⟩ hm'.row hx hm'.one hm'.rep
theorem VOp.one {t e : TypeId} {s b s' b' : Nat} {z z' : Value} {d' : TypeDesc} {x : Operand} {v : V} {ds : List D} (ho : o.op = .buildSlice t 1 #[(0, x)]) [ht : TI P t (.slice e) s b z] [he : TI P e d' s' b' z'] (hz : z'.cells.size = s') (hs : s' ≤ 1000) (hs0 : 0 < s') (hx : ev st.s x = some v) (hl : (flat v).length = s') (hd : toDs (flat v) = some ds) :
  VOp P n cx [] o (fun v' h' x' => v' = .ref st.x ∧ h' = (st.x, .arr e s' [ds]) :: st.h ∧ x' = st.x + 1) E st := fun g a w r Kc Q hk _ => by
 obtain ⟨f1, f2, f3⟩ := flat_rep (ev_rep r hx) (toDs_single hd)
 have hdl : ds.length = s' := by have := congrArg List.length (toDs_is hd); rw [List.length_map] at this; omega
 have hcell : (a.eval x).cells.size = s' := by rw [f1]; exact hl
 have hfill : Instr.fill (fun i => some (i * s', s')) ((Array.range (1 * s')).map (z'.cells[· % z'.cells.size]!)) [(0, a.eval x)] = some (a.eval x).cells := by
  simp only [Instr.fill, hcell, Nat.zero_mul, Nat.zero_add, Nat.one_mul, Array.size_map, Array.size_range]
  have hb' : ¬ ((decide (s' ≠ s') || decide (s' > s')) = true) := by simp
  rw [if_neg hb']
  have hfo := foldl_fill (a.eval x).cells.toList 0 0 ((Array.range s').map (z'.cells[· % z'.cells.size]!)) (by simp [hcell])
  have hz2 : (a.eval x).cells.zipIdx.foldl (fun cs (p : Value × Nat) => cs.setIfInBounds (0 + p.2) p.1) ((Array.range s').map (z'.cells[· % z'.cells.size]!)) = (a.eval x).cells := by
   rw [← Array.foldl_toList, Array.toList_zipIdx]
   rw [hfo]
   apply Array.toList_inj.1
   simp [splice, hcell]
  simpa using hz2
 have hrun : (execOp a.eval o).run P w = .ok (.value (.slice (some ⟨w.heap.size, 0, none⟩) 1 1)) (w.alloc (.cells (a.eval x).cells e (0, 0))) := by
  unfold execOp; rw [ho]
  have h24 : ¬ (1 * s' > 2 ^ 24) := by omega
  have h24' : ¬ (s' > 16777216) := by omega
  have hne : s' ≠ 0 := by omega
  simp [Instr.buildSlice, run_underlying ht.und, he.run_size, h24, h24', hne, he.run_zero]
  simp only [Nat.one_mul] at hfill
  rw [hfill]
  simp [newRow]
 have hrm : RowsM (Rd cx.z st.h g w) s' [ds] (a.eval x).cells.toList := by
  refine ⟨by simp [hcell], by simp [hdl], fun m hm => f2 m (Array.mem_toList_iff.1 hm), fun i j d hd' => ?_⟩
  cases i with
  | succ i => simp at hd'
  | zero =>
   simp at hd'
   have hlt : j < (a.eval x).cells.size := by have := (List.getElem?_eq_some_iff.1 hd').1; omega
   have hV : (flat v)[j]? = some d.toV := by rw [toDs_is hd, List.getElem?_map, hd']; rfl
   exact ⟨(a.eval x).cells[j], by simp [hlt], DRep.of_V (f3 j _ _ hV (Array.getElem?_eq_getElem hlt))⟩
 have hor := row_new r (t := e) (cap := 1) (cur := (a.eval x).cells) hrm (by simp [most]) (by simp) (by simp [maxLen]) (by simp [hcell]) (by rw [List.length_singleton, Nat.one_mul]; exact List.take_of_length_le (by simp [hcell]))
 unfold Oper.wp
 rw [hrun, Oper.upon_value]
 exact hk _ _ _ _ _ _ ⟨rfl, rfl, rfl⟩ (r.h.new _ rfl rfl hor) (ref_new (gv_new rfl) rfl) (new_next r.h _ rfl rfl) (new_touch r.h _ rfl rfl)
def chunk (sz : Nat) : Nat → List D → List (List D)
 | 0, _ => []
 | k + 1, ds => ds.take sz :: chunk sz k (ds.drop sz)
theorem chunk_length (sz : Nat) : ∀ (k : Nat) (ds : List D), (chunk sz k ds).length = k := by
 intro k
 induction k with
 | zero => intro ds; rfl
 | succ k ih => intro ds; simp [chunk, ih]
theorem chunk_row (sz : Nat) : ∀ (k : Nat) (ds : List D), ds.length = k * sz → ∀ r ∈ chunk sz k ds, r.length = sz := by
 intro k
 induction k with
 | zero => intro ds _ r hr; cases hr
 | succ k ih =>
  intro ds hl r hr
  rw [Nat.add_mul, Nat.one_mul] at hl
  rcases List.mem_cons.1 hr with rfl | hr
  ·rw [List.length_take]; omega
  ·exact ih _ (by rw [List.length_drop]; omega) r hr
theorem chunk_get (sz : Nat) : ∀ (k : Nat) (ds : List D), ds.length = k * sz → ∀ (i j : Nat) (d : D), ((chunk sz k ds)[i]?).bind (·[j]?) = some d → ds[i * sz + j]? = some d := by
 intro k
 induction k with
 | zero => intro ds _ i j d h; simp [chunk] at h
 | succ k ih =>
  intro ds hl i j d h
  rw [Nat.add_mul, Nat.one_mul] at hl
  cases i with
  | zero =>
   simp only [chunk, List.getElem?_cons_zero, Option.bind_some, List.getElem?_take] at h
   split at h
   ·rw [Nat.zero_mul, Nat.zero_add]; exact h
   ·cases h
  | succ i =>
   simp only [chunk, List.getElem?_cons_succ] at h
   have := ih _ (by rw [List.length_drop]; omega) i j d h
   rw [List.getElem?_drop] at this
   rw [Nat.add_mul, Nat.one_mul, show i * sz + sz + j = sz + (i * sz + j) from by omega]; exact this
theorem VOp.lit {t e : TypeId} {s b s' b' : Nat} {z z' : Value} {d' : TypeDesc} {len : Nat} {parts : Array (Nat × Operand)} {qs : List (Nat × V)} {cs : List V} {ds : List D} (ho : o.op = .buildSlice t len parts) [ht : TI P t (.slice e) s b z] [he : TI P e d' s' b' z'] (hz : z'.cells.all Value.oneCell' = true) (hzs : z'.cells.size = s') (hs0 : 0 < s') (hs : len * s' ≤ 100000)
  (hq : evParts st.s parts.toList = some qs) (hf : fillV (fun i => some (i * s', s')) ((List.range (len * s')).map fun k => .val (z'.cells.toList.getD (k % s') undef)) qs = some cs) (hd : toDs cs = some ds) (hdl : ds.length = len * s') :
  VOp P n cx [] o (fun v' h' x' => v' = .ref st.x ∧ h' = (st.x, .arr e s' (chunk s' len ds)) :: st.h ∧ x' = st.x + 1) E st := fun g a w r Kc Q hk _ => by
 have hzero : RelA (Rd cx.z st.h g w) (gvOf st.h g) st.x ((List.range (len * s')).map fun k => .val (z'.cells.toList.getD (k % s') undef)) ((Array.range (len * s')).map (z'.cells[· % z'.cells.size]!)) := by
  have key : ∀ k, z'.cells[k % z'.cells.size]! = z'.cells.toList.getD (k % s') undef ∧ (z'.cells.toList.getD (k % s') undef).oneCell' = true := fun k => by
   have hlt : k % s' < z'.cells.size := by rw [hzs]; exact Nat.mod_lt _ hs0
   rw [hzs, List.getD_eq_getElem?_getD, Array.getElem?_toList, Array.getElem?_eq_getElem hlt, getElem!_pos z'.cells (k % s') hlt]
   exact ⟨rfl, Array.all_eq_true'.1 hz _ (Array.getElem_mem hlt)⟩
  refine ⟨by simp, fun m hm => ?_, fun i c m hc hm => ?_⟩
  ·obtain ⟨k, _, rfl⟩ := Array.mem_map.1 hm
   rw [(key k).1]; exact (key k).2
  ·rw [List.getElem?_map] at hc
   rw [Array.getElem?_map] at hm
   by_cases hi : i < len * s'
   ·rw [List.getElem?_range hi] at hc
    rw [Array.getElem?_range, if_pos hi] at hm
    simp only [Option.map_some, Option.some.injEq] at hc hm
    subst hc
    subst hm
    rw [(key i).1]
    exact .val _ (key i).2
   ·rw [List.getElem?_eq_none (by simp; omega)] at hc; cases hc
 obtain ⟨ms, h1, h2⟩ := fill_rep (parts_rep r hq) hzero hf
 have hcl : cs.length = len * s' := by have := congrArg List.length (toDs_is hd); rw [List.length_map] at this; omega
 have hrun : (execOp a.eval o).run P w = .ok (.value (.slice (some ⟨w.heap.size, 0, none⟩) len len)) (w.alloc (.cells ms e (0, 0))) := by
  unfold execOp; rw [ho]
  have h24 : ¬ (len * s' > 2 ^ 24) := by omega
  have h24' : ¬ (16777216 < len * s') := by omega
  have hp : (parts.map fun (i, x) => (i, a.eval x)).toList = parts.toList.map fun p => (p.1, a.eval p.2) := by simp
  by_cases h0 : len * s' = 0
  ·rw [← hp] at h1
   have e0 : ∀ f : Nat → Value, (Array.range 0).map f = #[] := fun f => by apply Array.eq_empty_of_size_eq_zero; simp
   rw [h0, e0] at h1
   simp only [Sem.run_bind, Instr.buildSlice, run_underlying ht.und, he.run_size, Result.andThen, h24, h0, if_true, if_false, Sem.run_pure, e0, h1]
   simp [newRow, newObj, Sem.run]
  ·rw [← hp] at h1
   simp only [Sem.run_bind, Instr.buildSlice, run_underlying ht.und, he.run_size, Result.andThen, h24, h0, if_false, Sem.run_pure, he.run_zero, h1]
   simp [newRow, newObj, Sem.run]
 have hrm : RowsM (Rd cx.z st.h g w) s' (chunk s' len ds) ms.toList := by
  refine ⟨by rw [chunk_length]; simp [h2.1, hcl], chunk_row s' len ds hdl, fun m hm => h2.2.1 m (Array.mem_toList_iff.1 hm), fun i j d hd' => ?_⟩
  have hg := chunk_get s' len ds hdl i j d hd'
  have hV : cs[i * s' + j]? = some d.toV := by rw [toDs_is hd, List.getElem?_map, hg]; rfl
  have hlt : i * s' + j < ms.size := by rw [h2.1]; exact (List.getElem?_eq_some_iff.1 hV).1
  exact ⟨ms[i * s' + j], by simp [hlt], DRep.of_V (h2.2.2 _ _ _ hV (Array.getElem?_eq_getElem hlt))⟩
 have hle : len ≤ len * s' := Nat.le_mul_of_pos_right _ hs0
 have hor := row_new r (t := e) (cap := len) (cur := ms) hrm (by rw [chunk_length]; simp only [most]; omega) (by rw [chunk_length]; exact Nat.le_refl _) (by simp only [maxLen]; omega) (by rw [h2.1, hcl]) (by rw [chunk_length]; exact List.take_of_length_le (by simp [h2.1, hcl]))
 rw [chunk_length] at hor
 unfold Oper.wp
 rw [hrun, Oper.upon_value]
 exact hk _ _ _ _ _ _ ⟨rfl, rfl, rfl⟩ (r.h.new _ rfl rfl hor) (ref_new (gv_new rfl) rfl) (new_next r.h _ rfl rfl) (new_touch r.h _ rfl rfl)
end
end Go.Proofs.Ytfjfbapiheehaaa.V
namespace Go.Proofs.Ytfjfbapiheehaaa.V
open Go Go.RowKit Go.Proofs.YtfjfbapiheehaaaW.PrintWords
def gone : Option Nat → Heap → Heap
 | some id, h => (id, .dead) :: h
 | none, h => h
section
variable {cx : Cx} {h : Heap} {g : Nat → Value} {x : Nat} {w w' : World} {old : Option Nat} {o' : O} {v v' : Value}
theorem gv_gone {id : Nat} {u : Value} (h1 : gvOf (gone old h) g id = some u) : gvOf h g id = some u ∧ old ≠ some id := by
 cases old with
 | none => exact ⟨h1, by simp⟩
 | some i =>
  by_cases hi : i = id
  ·subst hi; simp [gone, gvOf, lk_same, O.live] at h1
  ·refine ⟨?_, by simpa using hi⟩
   unfold gvOf at h1 ⊢
   rw [gone, lk_other _ _ hi] at h1
   exact h1
theorem lk_gone {id : Nat} (hne : old ≠ some id) : lk (gone old h) id = lk h id := by
 cases old with
 | none => rfl
 | some i => exact lk_other _ _ (fun e => hne (by rw [e]))
def OldAt (h : Heap) (g : Nat → Value) (old : Option Nat) (v : Value) (ob : Option Nat) : Prop := match old with
 | some id => gvOf h g id = some v ∧ ∀ k, ob = some k → Blk v k
 | none => ob = none ∧ ∀ k, ¬ Blk v k
theorem blk_ownBlock {v : Value} {A : Option Addr} {n c : Nat} (h : v = .slice A n c) : blk v = v.ownBlock := by subst h; cases A <;> rfl
theorem OldAt.own {id : Nat} {ob : Option Nat} {k : Nat} (ho : OldAt h g old v ob) (h2 : Blk v k) : ∃ id, old = some id ∧ gvOf h g id = some v := by
 cases old with
 | some id => exact ⟨id, rfl, ho.1⟩
 | none => exact absurd h2 (ho.2 k)
theorem OldAt.at {ob : Option Nat} {k : Nat} (ho : OldAt h g old v ob) (e : ob = some k) : ∃ id, old = some id ∧ gvOf h g id = some v ∧ Blk v k := by
 cases old with
 | some id => exact ⟨id, rfl, ho.1, ho.2 k e⟩
 | none => rw [ho.1] at e; cases e
variable {ob : Option Nat}
theorem move_next (hh : HRep cx g h x w) (ho : OldAt h g old v ob) (hg : w.grownBy w' ob) (hl : o'.live = true)
  (hv' : ∀ k, Blk v' k → w.heap.size ≤ k ∧ k < w'.heap.size ∨ Blk v k) : Next h g x w ((x, o') :: gone old h) (setG g x v') (x + 1) w' := by
 refine ⟨⟨hg.size, ?_, ?_⟩, ?_, Nat.le_succ _⟩
 ·rintro k hk ⟨i, u, h1, h2⟩
  by_cases hi : i = x
  ·subst hi
   rw [gv_new hl] at h1
   obtain rfl := Option.some.inj h1
   rcases hv' k h2 with h3 | h3
   ·omega
   ·obtain ⟨id, _, h4⟩ := ho.own (id := 0) h3
    exact ⟨id, v, h4, h3⟩
  ·rw [gv_old hi] at h1
   exact ⟨i, u, (gv_gone h1).1, h2⟩
 ·intro k hk hno
  refine hg.block k hk (fun e => ?_)
  obtain ⟨id, _, h4, h5⟩ := ho.at e.symm
  exact hno ⟨id, v, h4, h5⟩
 ·intro i u hi h1
  rw [gv_old (by omega)] at h1
  exact (gv_gone h1).1
theorem HRep.move (hh : HRep cx g h x w) (ho : OldAt h g old v ob) (hg : w.grownBy w' ob) (hl : o'.live = true)
  (hv' : ∀ k, Blk v' k → w.heap.size ≤ k ∧ k < w'.heap.size ∨ Blk v k) (hr : ORep (Rd cx.z ((x, o') :: gone old h) (setG g x v') w') (gvOf ((x, o') :: gone old h) (setG g x v')) (x + 1) w' o' v') : HRep cx (setG g x v') ((x, o') :: gone old h) (x + 1) w' := by
 refine hh.upd (move_next hh ho hg hl hv') hg.os hg.tape hg.output ?_ ?_
 ·intro i u h1
  by_cases hi : i = x
  ·subst hi
   rw [gv_new hl] at h1
   obtain rfl := Option.some.inj h1
   exact ⟨Nat.lt_succ_self _, .inr ⟨o', lk_same _ _ _, hr⟩⟩
  ·rw [gv_old hi] at h1
   obtain ⟨h2, h3⟩ := gv_gone h1
   refine ⟨Nat.lt_succ_of_lt (hh.obj _ _ h2).1, .inl ⟨h2, by rw [lk_other _ _ (Ne.symm hi), lk_gone h3], fun k hk => ?_⟩⟩
   refine hg.block k (hh.mine _ _ _ h2 hk).1 (fun e => ?_)
   obtain ⟨id, h6, h4, h5⟩ := ho.at e.symm
   exact h3 (by rw [h6, hh.apart _ _ _ _ _ h2 h4 hk h5])
 ·intro i u h1
  by_cases hi : i = x
  ·subst hi
   rw [gv_new hl] at h1
   obtain rfl := Option.some.inj h1
   refine .inr ⟨rfl, fun k hk => ?_⟩
   rcases hv' k hk with h2 | h2
   ·exact .inl h2
   ·obtain ⟨id, h6, h4⟩ := ho.own (id := 0) h2
    refine .inr ⟨id, v, h4, h2, ?_⟩
    have hid := (hh.obj _ _ h4).1
    rw [gv_old (by omega)]
    cases hc : gvOf (gone old h) g id with
    | none => rfl
    | some u => exact absurd h6 (gv_gone hc).2
  ·rw [gv_old hi] at h1
   exact .inl (gv_gone h1).1
theorem move_touch (hh : HRep cx g h x w) (ho : OldAt h g old v ob) (hg : w.grownBy w' ob) (hl : o'.live = true)
  (hv' : ∀ k, Blk v' k → w.heap.size ≤ k ∧ k < w'.heap.size ∨ Blk v k) : Touch old.toList h g x w ((x, o') :: gone old h) (setG g x v') w' := by
 refine ⟨fun k hk hno => hg.block k hk (fun e => ?_), fun i u k hx h1 h2 => ?_⟩
 ·obtain ⟨id, h6, h4, h5⟩ := ho.at e.symm
  exact hno id (by rw [h6]; simp) v h4 h5
 ·by_cases hi : i = x
  ·subst hi
   rw [gv_new hl] at h1
   obtain rfl := Option.some.inj h1
   rcases hv' k h2 with h3 | h3
   ·exact .inl h3.1
   ·obtain ⟨id, h6, h4⟩ := ho.own (id := 0) h3
    exact .inr ⟨id, by rw [h6]; simp, v, h4, h3⟩
  ·rw [gv_old hi] at h1
   exact absurd (hh.obj _ _ (gv_gone h1).1).1 (by omega)
end
section
variable {P : Program} {n : Nat} {cx : Cx} {st : St} {o : Oper} {E : List PanicEntry → St → Prop}
inductive Base (h : Heap) : V → TypeId → Nat → List (List D) → Option Nat → Prop
 | arr {id : Nat} {t : TypeId} {sz : Nat} {xs : List (List D)} : lk h id = some (.arr t sz xs) → Base h (.ref id) t sz xs (some id)
 | nil {t : TypeId} {sz : Nat} : Base h (.val (.slice none 0 0)) t sz [] none
theorem Base.rep {g : Nat → Value} {a : Act} {w : World} (r : Rep n cx g st a w) {v : V} {t : TypeId} {sz : Nat} {xs : List (List D)} {old : Option Nat} (h : Base st.h v t sz xs old) {m : Value} (hv : VRep (Rd cx.z st.h g w) (gvOf st.h g) st.x v m) :
  OldAt st.h g old m m.ownBlock ∧ ∃ ms, w.ownsRow 0 t sz m xs.length ms ∧ RowsM (Rd cx.z st.h g w) sz xs ms := by
 cases h with
 | arr hh =>
  obtain ⟨v0, ms, hgv, e1, e2, e3, e4, e5⟩ := r.arr hh
  cases hv with
  | ref _ _ _ _ h3 =>
   have := (h3 _ hgv).trans (ownsRow_hd e1)
   subst this
   exact ⟨⟨hgv, fun k hk => .inl (blk_own hk)⟩, ms, e1, ⟨e1.1, e2, e4, e5⟩⟩
 | nil =>
  cases hv with
  | val => exact ⟨⟨rfl, fun k hk => by have := hk.inv rfl; cases this⟩, [], World.ownsRow_nil _ _ _ _, RowsM.nil⟩
theorem append_keep (w : World) (t ty e : TypeId) (i : TypeInfo) (ht : P.underlying t = some (.slice e)) (hi : P.info? e = some i) (base : Option Addr) (k cap : Nat) (hc : k ≤ cap) (A : Option Addr) (c : Nat) :
  (Builtin.append_ #[t, t] ty #[.slice base k cap, .slice A 0 c]).run P w = .ok (.slice base k cap) w := by
 cases A <;> cases base <;> simp [Builtin.append_, run_underlying ht, sizeOf, typeInfo, hi, Builtin.lenOf, Builtin.firstCells, hc, loadCells, loadCellsFrom, storeCells]
theorem VOp.append {t e : TypeId} {s b s' b' : Nat} {z z' : Value} {d' : TypeDesc} {p q : Operand} {u v : V} {xs ys : List (List D)} {old : Option Nat} (ho : o.op = .call { callee := .builtin .append, args := #[p, q], argTypes := #[t, t] }) [ht : TI P t (.slice e) s b z] [he : TI P e d' s' b' z'] (hz : z'.cells.size = s') (hs0 : 0 < s')
  (hp : ev st.s p = some u) (hb : Base st.h u e s' xs old) (hq : ev st.s q = some v) (hsrc : Src st.h v s' ys) (hl : (xs.length + ys.length) * b' ≤ most) (hl' : xs.length + ys.length ≤ most) :
  VOp P n cx old.toList o (fun v' h' x' => v' = .ref st.x ∧ h' = (st.x, .arr e s' (xs ++ ys)) :: gone old st.h ∧ x' = st.x + 1) E st := fun g a w r Kc Q hk _ => by
 obtain ⟨hOld, ms, hown, hrm⟩ := hb.rep r (ev_rep r hp)
 obtain ⟨hmy, hsr⟩ := hsrc.rep r (ev_rep r hq)
 obtain ⟨i, hi, hisz, hiby, hiz⟩ := he.info
 have hsl : ∃ A c, a.eval p = .slice A xs.length c ∧ xs.length ≤ c := by
  rcases hown.2 with ⟨h1, h2⟩ | ⟨g', cap, cur, h1, _, _, h2, _⟩
  ·exact ⟨none, 0, by rw [h1, h2], by omega⟩
  ·exact ⟨_, cap, h1, h2⟩
 obtain ⟨A, c, hA, hAc⟩ := hsl
 have hbo : blk (a.eval p) = (a.eval p).ownBlock := blk_ownBlock hA
 have fin : ∀ (v' : Value) (w' : World) (ns : List Value), RowsM (Rd cx.z st.h g w) s' ys ns → (Builtin.append_ #[t, t] o.type #[a.eval p, a.eval q]).run P w = .ok v' w' → w'.ownsRow 0 e s' v' (xs.length + ys.length) (ms ++ ns) → w.grownBy w' (a.eval p).ownBlock →
   (∀ k, v'.ownBlock = some k → w.heap.size ≤ k ∧ k < w'.heap.size ∨ (a.eval p).ownBlock = some k) → o.wp P a w Kc Q := by
  intro v' w' ns hns hrun hown' hgr hat
  have hsl' : ∃ A' c', v' = .slice A' (xs.length + ys.length) c' := by
   rcases hown'.2 with ⟨h1, h2⟩ | ⟨g', cap, cur, h1, _⟩
   ·exact ⟨none, 0, by rw [h1, h2]⟩
   ·exact ⟨_, cap, h1⟩
  obtain ⟨A', c', hA'⟩ := hsl'
  have hbo' : blk v' = v'.ownBlock := blk_ownBlock hA'
  have hv' : ∀ k, Blk v' k → w.heap.size ≤ k ∧ k < w'.heap.size ∨ Blk (a.eval p) k := fun k hk => by
   have hk := hk.inv (by rw [hA']; rfl)
   rw [hbo'] at hk
   exact (hat k hk).imp id (fun h => .inl (by rw [hbo]; exact h))
  have nx := move_next (o' := .arr e s' (xs ++ ys)) r.h hOld hgr rfl hv'
  have hrm' := (hrm.append hns).mono nx.m.rd
  have hR := r.h.move (o' := .arr e s' (xs ++ ys)) hOld hgr rfl hv' (.arr e s' (xs ++ ys) v' (ms ++ ns) (by rw [List.length_append]; exact hown') hrm'.row (by rw [List.length_append]; exact hl') hrm'.one hrm'.rep)
  unfold Oper.wp execOp
  simp only [ho, resolve, invoke, builtin, Sem.run_bind, Sem.run_pure, Result.andThen_ok, List.map_toArray, List.map_cons, List.map_nil, hrun]
  exact hk _ _ _ _ _ _ ⟨rfl, rfl, rfl⟩ hR (ref_new (gv_new rfl) (by rw [hA']; rfl)) nx (move_touch r.h hOld hgr rfl hv')
 have keep : ∀ A2 c2, a.eval q = .slice A2 0 c2 → ys = [] → o.wp P a w Kc Q := by
  intro A2 c2 hq2 hy
  subst hy
  refine fin (a.eval p) w [] RowsM.nil ?_ (by simpa using hown) ⟨rfl, rfl, rfl, Nat.le_refl _, fun _ _ _ => rfl⟩ (fun k hk => .inr hk)
  rw [hA, hq2]
  exact append_keep w t o.type e i ht.und hi A xs.length c hAc A2 c2
 rcases hsr with ⟨h1, h2⟩ | ⟨A2, c2, h1, h2⟩ | ⟨ad, c2, ns, h1, hns, hcell⟩
 ·exact keep none 0 h1 h2
 ·exact keep A2 c2 h1 h2
 ·obtain ⟨v', w', hrun, hown', hgr, hnil, hat⟩ := run_append_own_at (P := P) w 0 t o.type e i z' s' b' ht.und hi hiz hisz hiby hz hs0 (a.eval p) xs.length ms hown ad ys.length c2 ns hns.len hcell hns.one
   (by simp only [maxLen]; simp only [most] at hl'; omega) (by simp only [most] at hl; exact hl) (Nat.zero_le _)
  refine fin v' w' ns hns (by rw [h1]; exact hrun) hown' hgr (fun k hk => ?_)
  rcases hat with hat | hat
  ·exact .inr (by rw [← hat]; exact hk)
  ·rw [hat] at hk
   obtain rfl := Option.some.inj hk
   exact .inl ⟨Nat.le_refl _, own_lt hown' _ hat⟩
end
end Go.Proofs.Ytfjfbapiheehaaa.V
end
