/- stack: facts of the lists. -/
import Derived.Test.YtdkgbkmaeeicoaaVSNone
set_option linter.unusedVariables false
set_option linter.unusedSimpArgs false
-- YtdkgbkmaeeicoaaVC
namespace Go.Proofs.Ytdkgbkmaeeicoaa.V
open Go Go.RowKit
def keys (l : List Nd) : List (Int × Int) := l.map fun u => (u.sym, u.pos)
theorem isNd_is (s p : Int) (u : Nd) : isNd s p u = true ↔ (u.sym, u.pos) = (s, p) := by
  unfold isNd
  simp only [Bool.and_true, Bool.and_eq_true, decide_eq_true_eq, Prod.mk.injEq]
  constructor
  · rintro ⟨rfl, rfl⟩; exact ⟨rfl, rfl⟩
  · rintro ⟨rfl, rfl⟩; exact ⟨rfl, rfl⟩
theorem there_iff {l : List Nd} {s p : Int} : thereB l s p = true ↔ (s, p) ∈ keys l := by
  unfold thereB keys
  rw [List.findIdx?_isSome, List.any_eq_true, List.mem_map]
  constructor
  · rintro ⟨u, hu, h⟩; exact ⟨u, hu, (isNd_is s p u).1 h⟩
  · rintro ⟨u, hu, h⟩; exact ⟨u, hu, (isNd_is s p u).2 h⟩
theorem keys_set {l : List Nd} {k : Nat} {u u' : Nd} (h : l[k]? = some u) (h1 : u'.sym = u.sym) (h2 : u'.pos = u.pos) : keys (l.set k u') = keys l := by
  unfold keys
  apply List.ext_getElem?
  intro i
  rw [List.getElem?_map, List.getElem?_map, List.getElem?_set]
  by_cases hk : k = i
  · subst hk
    have hu := (List.getElem?_eq_some_iff.1 h).2
    have hlt := (List.getElem?_eq_some_iff.1 h).1
    simp [hlt, hu, h1, h2]
  · simp [hk]
theorem atNd_keys {l : List Nd} {n : Int} {f : Nd → Nd} (h1 : ∀ u, (f u).sym = u.sym) (h2 : ∀ u, (f u).pos = u.pos) : keys (atNd l n f) = keys l := by
  unfold atNd
  split
  · rename_i u hu; exact keys_set hu (h1 u) (h2 u)
  · rfl
theorem addEdge_keys (l : List Nd) (n st ab : Int) : keys (addEdge l n st ab) = keys l := by
  unfold addEdge
  split
  · exact atNd_keys (fun _ => rfl) (fun _ => rfl)
  · rfl
theorem addPop_keys (l : List Nd) (n q : Int) : keys (addPop l n q) = keys l := by
  unfold addPop
  split
  · exact atNd_keys (fun _ => rfl) (fun _ => rfl)
  · rfl
theorem keys_len {a b : List Nd} (h : keys a = keys b) : a.length = b.length := by
  have := congrArg List.length h
  simpa [keys] using this
theorem addNode_there (l : List Nd) (s p : Int) : thereB (addNode l s p) s p = true := by
  unfold addNode
  split
  · rename_i h; exact h
  · rw [there_iff]; simp [keys]
theorem addNode_mono {l : List Nd} {s p s' p' : Int} (h : thereB l s p = true) : thereB (addNode l s' p') s p = true := by
  unfold addNode
  split
  · exact h
  · rw [there_iff] at h ⊢
    unfold keys at h ⊢
    rw [List.map_append]; exact List.mem_append_left _ h
theorem addNode_idem (l : List Nd) (s p : Int) : addNode (addNode l s p) s p = addNode l s p := by
  have key : ∀ a : List Nd, thereB a s p = true → addNode a s p = a := fun a h => by unfold addNode; rw [if_pos h]
  exact key _ (addNode_there l s p)
theorem nodeAt_lt (l : List Nd) (s p : Int) : nodeAt l s p < (addNode l s p).length := by
  unfold nodeAt addNode thereB
  cases h : l.findIdx? (isNd s p) with
  | none => simp
  | some i => simpa using (List.findIdx?_eq_some_iff_getElem.1 h).1
theorem nodeAt_add (l : List Nd) (s p : Int) : nodeAt (addNode l s p) s p = nodeAt l s p := by
  unfold nodeAt addNode thereB
  cases h : l.findIdx? (isNd s p) with
  | some i => simp [h]
  | none =>
    have : isNd s p (Nd.mk s p [] []) = true := (isNd_is s p _).2 rfl
    simp [List.findIdx?_append, h, List.findIdx?_cons, this]
theorem addNode_len (l : List Nd) (s p : Int) : l.length ≤ (addNode l s p).length ∧ (addNode l s p).length ≤ l.length + 1 := by
  unfold addNode
  split
  · exact ⟨Nat.le_refl _, Nat.le_succ _⟩
  · simp
theorem addNode_sums (l : List Nd) (s p : Int) : sumE (addNode l s p) = sumE l ∧ sumP (addNode l s p) = sumP l := by
  unfold addNode
  split
  · exact ⟨rfl, rfl⟩
  · simp [sumE, sumP, lensE, lensP]
theorem sum_set {α : Type} (f : α → Nat) {l : List α} {k : Nat} {u u' : α} (h : l[k]? = some u) : ((l.set k u').map f).sum + f u = (l.map f).sum + f u' := by
  induction l generalizing k with
  | nil => simp at h
  | cons a l ih =>
    cases k with
    | zero => simp at h; subst h; simp; omega
    | succ k =>
      have := ih (k := k) (by simpa using h)
      simp only [List.set_cons_succ, List.map_cons, List.sum_cons]; omega
theorem le_sum {α : Type} (f : α → Nat) {l : List α} {u : α} (h : u ∈ l) : f u ≤ (l.map f).sum := by
  induction l with
  | nil => cases h
  | cons a l ih =>
    rcases List.mem_cons.1 h with rfl | h
    · simp
    · have := ih h; simp; omega
theorem small_of {l : List Nd} {c : Nat} (hE : sumE l ≤ c) (hP : sumP l ≤ c) : ∀ u ∈ l, u.e.length ≤ c ∧ u.p.length ≤ c := fun u hu =>
  ⟨Nat.le_trans (le_sum (fun u : Nd => u.e.length) hu) hE, Nat.le_trans (le_sum (fun u : Nd => u.p.length) hu) hP⟩
theorem addP_len (l : List (Int × Int)) (x : Int × Int) : (addP l x).length = l.length + if l.any (eqP x) then 0 else 1 := by
  unfold addP; split <;> simp
theorem addZ_len (l : List Int) (x : Int) : (addZ l x).length = l.length + if l.any (fun y => decide (x = y)) then 0 else 1 := by
  unfold addZ; split <;> simp
theorem addP_has (l : List (Int × Int)) (x : Int × Int) : (addP l x).any (eqP x) = true := by
  unfold addP
  split
  · rename_i h; exact h
  · simp [eqP_is]
theorem addZ_has (l : List Int) (x : Int) : (addZ l x).any (fun y => decide (x = y)) = true := by
  unfold addZ
  split
  · rename_i h; exact h
  · simp
theorem addP_idem (l : List (Int × Int)) (x : Int × Int) : addP (addP l x) x = addP l x := by
  have key : ∀ a : List (Int × Int), a.any (eqP x) = true → addP a x = a := fun a h => by unfold addP; rw [if_pos h]
  exact key _ (addP_has l x)
theorem addZ_idem (l : List Int) (x : Int) : addZ (addZ l x) x = addZ l x := by
  have key : ∀ a : List Int, (a.any fun y => decide (x = y)) = true → addZ a x = a := fun a h => by unfold addZ; rw [if_pos h]
  exact key _ (addZ_has l x)
theorem hasB_len {a b : List Nd} (h : a.length = b.length) (n : Int) : hasB a n = hasB b n := by unfold hasB; rw [h]
theorem edge_facts (l : List Nd) (n st ab : Int) : (addEdge l n st ab).length = l.length ∧ sumE (addEdge l n st ab) = sumE l + (if edgeB l n st ab then 1 else 0) ∧ sumP (addEdge l n st ab) = sumP l ∧ edgeB (addEdge l n st ab) n st ab = false ∧ addEdge (addEdge l n st ab) n st ab = addEdge l n st ab := by
  have hlen : (addEdge l n st ab).length = l.length := keys_len (addEdge_keys l n st ab)
  have hh := hasB_len hlen
  by_cases h : hasB l n && hasB l ab
  · obtain ⟨h1, h2⟩ : hasB l n = true ∧ hasB l ab = true := by simpa using h
    obtain ⟨k, u, rfl, hu, hk⟩ := hasB_some h1
    have e : addEdge l k st ab = l.set k (withE (st, ab) u) := by unfold addEdge; rw [if_pos h, atNd_some hu]
    have hu' : (l.set k (withE (st, ab) u))[k]? = some (withE (st, ab) u) := by rw [List.getElem?_set, if_pos rfl, if_pos hk]
    have eb : edgeB l k st ab = !(u.e.any (eqP (st, ab))) := by unfold edgeB; rw [h1, h2, (of_some hu).1]; rfl
    refine ⟨hlen, ?_, ?_, ?_, ?_⟩
    · have h3 := sum_set (fun u : Nd => u.e.length) (u' := withE (st, ab) u) hu
      have h4 : (withE (st, ab) u).e.length = u.e.length + if u.e.any (eqP (st, ab)) then 0 else 1 := addP_len u.e (st, ab)
      rw [e, eb]
      simp only [h4] at h3
      unfold sumE lensE
      cases hb : u.e.any (eqP (st, ab)) with
      | true => rw [hb] at h3; simp only [Bool.not_true, Bool.false_eq_true, if_false, if_true] at h3 ⊢; omega
      | false => rw [hb] at h3; simp only [Bool.not_false, Bool.false_eq_true, if_false, if_true] at h3 ⊢; omega
    · have := sum_set (fun u : Nd => u.p.length) (u' := withE (st, ab) u) hu
      rw [e]
      unfold sumP lensP
      simp only [withE] at this ⊢
      omega
    · unfold edgeB
      rw [e, (of_some hu').1]
      simp only [withE, addP_has, Bool.not_true, Bool.and_false]
    · rw [e]
      have h' : (hasB (l.set k (withE (st, ab) u)) k && hasB (l.set k (withE (st, ab) u)) ab) = true := by rw [← e, hh, hh]; exact h
      unfold addEdge
      rw [if_pos h', atNd_some hu', List.set_set]
      simp only [withE, addP_idem]
  · have e : addEdge l n st ab = l := by unfold addEdge; rw [if_neg h]
    have eb : edgeB l n st ab = false := by
      unfold edgeB
      rw [← Bool.and_assoc]
      simp only [Bool.not_eq_true] at h
      rw [h]; rfl
    rw [e, eb]
    simp [e]
theorem pop_facts (l : List Nd) (n q : Int) : (addPop l n q).length = l.length ∧ sumP (addPop l n q) = sumP l + (if popB l n q then 1 else 0) ∧ sumE (addPop l n q) = sumE l ∧ popB (addPop l n q) n q = false ∧ addPop (addPop l n q) n q = addPop l n q := by
  have hlen : (addPop l n q).length = l.length := keys_len (addPop_keys l n q)
  have hh := hasB_len hlen
  by_cases h1 : hasB l n
  · obtain ⟨k, u, rfl, hu, hk⟩ := hasB_some h1
    have e : addPop l k q = l.set k (withP q u) := by unfold addPop; rw [if_pos h1, atNd_some hu]
    have hu' : (l.set k (withP q u))[k]? = some (withP q u) := by rw [List.getElem?_set, if_pos rfl, if_pos hk]
    have eb : popB l k q = !(u.p.any fun y => decide (q = y)) := by unfold popB; rw [h1, (of_some hu).2]; rfl
    refine ⟨hlen, ?_, ?_, ?_, ?_⟩
    · have h3 := sum_set (fun u : Nd => u.p.length) (u' := withP q u) hu
      have h4 : (withP q u).p.length = u.p.length + if (u.p.any fun y => decide (q = y)) then 0 else 1 := addZ_len u.p q
      rw [e, eb]
      simp only [h4] at h3
      unfold sumP lensP
      cases hb : (u.p.any fun y => decide (q = y)) with
      | true => rw [hb] at h3; simp only [Bool.not_true, Bool.false_eq_true, if_false, if_true] at h3 ⊢; omega
      | false => rw [hb] at h3; simp only [Bool.not_false, Bool.false_eq_true, if_false, if_true] at h3 ⊢; omega
    · have := sum_set (fun u : Nd => u.e.length) (u' := withP q u) hu
      rw [e]
      unfold sumE lensE
      simp only [withP] at this ⊢
      omega
    · unfold popB
      rw [e, (of_some hu').2]
      simp only [withP, addZ_has, Bool.not_true, Bool.and_false]
    · rw [e]
      have h' : hasB (l.set k (withP q u)) k = true := by rw [← e, hh]; exact h1
      unfold addPop
      rw [if_pos h', atNd_some hu', List.set_set]
      simp only [withP, addZ_idem]
  · have e : addPop l n q = l := by unfold addPop; rw [if_neg h1]
    have eb : popB l n q = false := by
      unfold popB
      simp only [Bool.not_eq_true] at h1
      rw [h1]; rfl
    rw [e, eb]
    simp [e]
end Go.Proofs.Ytdkgbkmaeeicoaa.V
