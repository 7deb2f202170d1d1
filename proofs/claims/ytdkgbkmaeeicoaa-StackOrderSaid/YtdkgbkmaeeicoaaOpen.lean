/- An argument that is read as data is read as a kind's value: numbers, bools, texts, rows, structs, nested in each other. -/
import Derived.Test.YtdkgbkmaeeicoaaWWords
import Derived.Test.YtdkgbkmaeeicoaaWLast
import Derived.Test.YtdkgbkmaeeicoaaProg
import Derived.ProofKit
import Derived.OpenShut
import Derived.ChangeOld
import Derived.DataReads
set_option linter.unusedVariables false
set_option linter.unusedSimpArgs false
namespace Go.Proofs.Ytdkgbkmaeeicoaa.Open
open Go Go.RowKit Go.Proofs.YtdkgbkmaeeicoaaW.PrintWords Go.Proofs.YtdkgbkmaeeicoaaW.PrintLast Go.ChangeShapes Go.WideShapes
section
variable {H : Type} {enc : TypeId × Value → H} {P : Program} {w : World} {base : Nat} {spare : Nat → Bool} {held : Bool}
/-- What is read at this type is a value of this kind, and good. -/
def Opens (enc : TypeId × Value → H) (P : Program) (w : World) (base : Nat) (spare : Nat → Bool) (held : Bool) {α : Type} (d : Kd α) (t : TypeId) (good : α → Prop) : Prop :=
  ∀ fuel cs x, DataW.trod enc P w base spare held fuel t cs = some x → ∃ a, d.K w a cs ∧ good a
theorem opens_int {k : IntKind} {t : TypeId} (ht : P.underlying t = some (.int k)) : Opens enc P w base spare held (Kd.int k) t (fun n => (Lit.int k n).wf = true) := fun fuel cs x h => by
  obtain ⟨n, rfl, _, hw⟩ := DataW.trod_int ht h
  exact ⟨n, rfl, hw⟩
theorem opens_bool {t : TypeId} (ht : P.underlying t = some .bool) : Opens enc P w base spare held Kd.bool t (fun _ => True) := fun fuel cs x h => by
  obtain ⟨b, rfl, _⟩ := DataW.trod_bool ht h
  exact ⟨b, rfl, trivial⟩
theorem opens_string {t : TypeId} (ht : P.underlying t = some .string) : Opens enc P w base spare held Kd.string t (fun s => s.size ≤ 9223372036854775807) := fun fuel cs x h => by
  obtain ⟨s, rfl, _, hs⟩ := DataW.trod_string ht h
  exact ⟨s, rfl, hs⟩
theorem opens_slice {α : Type} {d : Kd α} {t e : TypeId} {good : α → Prop} (ht : P.underlying t = some (.slice e)) (hsz : P.cellsOf e = d.sz) (h : Opens enc P w base spare held d e good) :
    Opens enc P w base spare held (Kd.slice e d) t (fun xs => ∀ a ∈ xs, good a) := fun fuel cs x hx => by
  rcases DataW.trod_slice ht hx with ⟨rfl, _⟩ | ⟨a, len, cap, elems, rest, n, _, rfl, _, hb, hl, hm, hlen, hel, _, _⟩
  · exact ⟨[], ⟨none, 0, rfl, Nat.le_refl _, Kd.C_nil d w⟩, fun a ha => by cases ha⟩
  · have hget : ∀ i : Fin len, ∃ p, good p ∧ ∃ c, c.length = d.sz ∧ d.K w p c ∧ ∀ j u, c[j]? = some u → w.cell? (a.add (i.val * d.sz + j)) = some u := by
      intro i
      have h1 := hel i.val i.isLt
      have hi : i.val < elems.length := by rw [hlen]; exact i.isLt
      rw [List.getElem?_eq_getElem hi, Option.bind_eq_some_iff] at h1
      obtain ⟨c, hc, htr⟩ := h1
      obtain ⟨p, hk, hg⟩ := h _ _ _ htr
      have hcs := World.cells?_some hc
      refine ⟨p, hg, c, d.K_len hk, hk, fun j u hj => ?_⟩
      have hlc := d.K_len hk
      have hj' : j < d.sz := by
        rcases Nat.lt_or_ge j d.sz with h2 | h2
        · exact h2
        · rw [List.getElem?_eq_none (by omega)] at hj; cases hj
      have h3 := hcs.2.2 j (by rw [hsz]; exact hj')
      rw [add_add, hsz] at h3
      rw [h3, hj]
    refine ⟨List.ofFn fun i => (hget i).choose, ⟨some a, cap, by rw [List.length_ofFn], by rw [List.length_ofFn]; exact hl, ?_⟩, fun p hp => ?_⟩
    · refine ⟨rfl, by rw [List.length_ofFn]; unfold maxLen at hm; omega, fun _ => ⟨a, rfl, fun j p hj => ?_⟩⟩
      rw [List.getElem?_ofFn] at hj
      split at hj
      · rename_i hlt
        simp only [Option.some.injEq] at hj
        subst hj
        exact (hget ⟨j, hlt⟩).choose_spec.2
      · cases hj
    · obtain ⟨i, rfl⟩ := List.mem_ofFn.1 hp
      exact (hget i).choose_spec.1
/-- A struct's part, as its field's type reads it. -/
theorem part {t : TypeId} {fs : Array Field} {fuel : Nat} {cs : List Value} {x : DataW H × List MemPlace} (ht : P.underlying t = some (.struct fs)) (h : DataW.trod enc P w base spare held fuel t cs = some x)
    {α : Type} {d : Kd α} {good : α → Prop} (i : Nat) (f : Field) (hf : fs[i]? = some f) (ho : Opens enc P w base spare held d f.type good) : ∃ a, d.K w a ((cs.drop f.offset).take (P.cellsOf f.type)) ∧ good a := by
  obtain ⟨xs, n, _, _, _, hl, hall⟩ := DataW.trod_struct ht h
  have h1 := hall i f hf
  have hi : i < xs.length := by rw [hl]; exact (Array.getElem?_eq_some_iff.1 hf).1
  rw [List.getElem?_eq_getElem hi] at h1
  exact ho _ _ _ h1
theorem struct_len {t : TypeId} {fs : Array Field} {fuel : Nat} {cs : List Value} {x : DataW H × List MemPlace} (ht : P.underlying t = some (.struct fs)) (h : DataW.trod enc P w base spare held fuel t cs = some x) : cs.length = P.cellsOf t := by
  obtain ⟨_, _, _, _, hc, _⟩ := DataW.trod_struct ht h
  exact hc
theorem split2 {α : Type} (cs : List α) (a b : Nat) (h : cs.length = a + b) : cs = (cs.drop 0).take a ++ (cs.drop a).take b := by
  rw [List.drop_zero, List.take_of_length_le (l := cs.drop a) (by rw [List.length_drop]; omega), List.take_append_drop]
theorem opens_struct1 {α β : Type} {d : Kd α} {g : β → α} {t : TypeId} {fs : Array Field} {f0 : Field} {good : α → Prop} (mk : α → β) (hmk : ∀ a, g (mk a) = a) (ht : P.underlying t = some (.struct fs))
    (h0 : fs[0]? = some f0) (o0 : f0.offset = 0) (hc : P.cellsOf t = P.cellsOf f0.type) (ho : Opens enc P w base spare held d f0.type good) : Opens enc P w base spare held (Kd.iso d g) t (fun b => good (g b)) := fun fuel cs x h => by
  obtain ⟨a, ha, hg⟩ := part ht h 0 f0 h0 ho
  have hl := struct_len ht h
  rw [o0, List.drop_zero, List.take_of_length_le (by omega)] at ha
  refine ⟨mk a, ?_, by simp only [hmk]; exact hg⟩
  show d.K w (g (mk a)) cs
  rw [hmk]; exact ha
theorem opens_struct2 {α β γ : Type} {d : Kd α} {d' : Kd β} {g : γ → α × β} {t : TypeId} {fs : Array Field} {f0 f1 : Field} {good : α → Prop} {good' : β → Prop} (mk : α → β → γ) (hmk : ∀ a b, g (mk a b) = (a, b)) (ht : P.underlying t = some (.struct fs))
    (h0 : fs[0]? = some f0) (h1 : fs[1]? = some f1) (o0 : f0.offset = 0) (o1 : f1.offset = P.cellsOf f0.type) (hc : P.cellsOf t = P.cellsOf f0.type + P.cellsOf f1.type)
    (p0 : Opens enc P w base spare held d f0.type good) (p1 : Opens enc P w base spare held d' f1.type good') : Opens enc P w base spare held (Kd.iso (Kd.pair d d') g) t (fun b => good (g b).1 ∧ good' (g b).2) := fun fuel cs x h => by
  obtain ⟨a, ha, hg⟩ := part ht h 0 f0 h0 p0
  obtain ⟨b, hb, hg'⟩ := part ht h 1 f1 h1 p1
  have hl := struct_len ht h
  rw [hc] at hl
  rw [o0] at ha
  rw [o1] at hb
  refine ⟨mk a b, ?_, by simp only [hmk]; exact ⟨hg, hg'⟩⟩
  show (Kd.pair d d').K w (g (mk a b)) cs
  rw [hmk]
  exact ⟨_, _, split2 cs _ _ hl, ha, hb⟩
theorem opens_struct3 {α β γ δ : Type} {d : Kd α} {d' : Kd β} {d'' : Kd γ} {g : δ → α × β × γ} {t : TypeId} {fs : Array Field} {f0 f1 f2 : Field} {good : α → Prop} {good' : β → Prop} {good'' : γ → Prop} (mk : α → β → γ → δ) (hmk : ∀ a b c, g (mk a b c) = (a, b, c)) (ht : P.underlying t = some (.struct fs))
    (h0 : fs[0]? = some f0) (h1 : fs[1]? = some f1) (h2 : fs[2]? = some f2) (o0 : f0.offset = 0) (o1 : f1.offset = P.cellsOf f0.type) (o2 : f2.offset = P.cellsOf f0.type + P.cellsOf f1.type) (hc : P.cellsOf t = P.cellsOf f0.type + (P.cellsOf f1.type + P.cellsOf f2.type))
    (p0 : Opens enc P w base spare held d f0.type good) (p1 : Opens enc P w base spare held d' f1.type good') (p2 : Opens enc P w base spare held d'' f2.type good'') :
    Opens enc P w base spare held (Kd.iso (Kd.pair d (Kd.pair d' d'')) g) t (fun b => good (g b).1 ∧ good' (g b).2.1 ∧ good'' (g b).2.2) := fun fuel cs x h => by
  obtain ⟨a, ha, hg⟩ := part ht h 0 f0 h0 p0
  obtain ⟨b, hb, hg'⟩ := part ht h 1 f1 h1 p1
  obtain ⟨c, hc', hg''⟩ := part ht h 2 f2 h2 p2
  have hl := struct_len ht h
  rw [hc] at hl
  rw [o0] at ha
  rw [o1] at hb
  rw [o2, ← List.drop_drop] at hc'
  refine ⟨mk a b c, ?_, by simp only [hmk]; exact ⟨hg, hg', hg''⟩⟩
  show (Kd.pair d (Kd.pair d' d'')).K w (g (mk a b c)) cs
  rw [hmk]
  have e := split2 cs _ _ hl
  have hl2 : ((cs.drop (P.cellsOf f0.type)).take (P.cellsOf f1.type + P.cellsOf f2.type)).length = P.cellsOf f1.type + P.cellsOf f2.type := by rw [List.length_take, List.length_drop]; omega
  refine ⟨_, _, e, ha, _, _, split2 _ _ _ hl2, ?_, ?_⟩
  · rw [List.drop_zero, List.take_take, Nat.min_eq_left (Nat.le_add_right _ _)]; exact hb
  · rw [List.drop_take, List.take_take]
    rw [show min (P.cellsOf f2.type) (P.cellsOf f1.type + P.cellsOf f2.type - P.cellsOf f1.type) = P.cellsOf f2.type from by omega]
    exact hc'
end
end Go.Proofs.Ytdkgbkmaeeicoaa.Open
