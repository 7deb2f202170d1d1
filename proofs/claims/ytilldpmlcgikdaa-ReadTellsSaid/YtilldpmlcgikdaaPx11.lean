-- Written by this session's own program wip/gen.py; Lean checks it.
import Derived.Test.YtilldpmlcgikdaaPx0
import Derived.Test.YtilldpmlcgikdaaReadAltsPure
namespace Go.Proofs.Ytilldpmlcgikdaa.P
open Go.RowKit Go.Proofs.YtilldpmlcgikdaaW.PrintWords Go.Proofs.YtilldpmlcgikdaaW.PrintLast Go.Proofs.YtilldpmlcgikdaaW.PrintMore
attribute [local go_sem] max2_int min2_int max_two min_two max_three min_three max_four min_four   -- for this text's walks alone
set_option linter.unusedVariables false
set_option linter.unusedSimpArgs false

/-! ### read_Alts: function 11 -/
-- import Derived.Test.YtilldpmlcgikdaaReadAltsPure
def read_Alts.f (l0 : List S38) (a1 : Int) : Option (List S40 × Int × Int) :=
  if l0.length ≤ 1000000000 then
    match rrun a1 (.start, []) l0 with
    | .ok out => some (out.map altOf, 0, 0)
    | .error (e, p) => some ([], e, p)
  else none
theorem read_Alts.calls (A0 : Option Addr) (c0 : Nat) (l0 : List S38) (a1 : Int) (r1 : List S40) (r2 : Int) (r3 : Int) (w : World) (hr0 : Kd.C k38 w A0 l0.length l0) (hc0 : l0.length ≤ c0) (h : read_Alts.f l0 a1 = some (r1, r2, r3)) :
    Calls Try.prog 11 #[.slice A0 l0.length c0, .int .i64 a1] w fun e w' => ∃ v0_ : Value, e = .returned (.tuple #[v0_, .agg #[.int .i64 r2, .int .i64 r3]]) ∧ Kd.R k40 40 w' w.heap.size (fun _ => True) v0_ r1 ∧ Below w.heap.size w w' := by
  unfold read_Alts.f at h
  by_cases hl : l0.length ≤ 1000000000
  · rw [if_pos hl] at h
    have h1 := def_run a1 l0 [] (Or.inr rfl)
    rw [List.map_nil] at h1
    cases hd : defGo a1 l0 [] with
    | error p =>
      obtain ⟨pc, pp⟩ := p
      rw [hd] at h1
      simp only at h1
      rw [h1] at h
      simp only [Option.some.injEq, Prod.mk.injEq] at h
      obtain ⟨rfl, rfl, rfl⟩ := h
      exact alts_first A0 c0 l0 a1 w hr0 hc0 hl pc pp hd
    | ok q =>
      obtain ⟨out1, l1⟩ := q
      rw [hd] at h1
      obtain ⟨o', ho', hne, hrun⟩ := h1
      have hlt := def_less a1 l0 [] _ hd
      simp only at hlt
      have hm := alts_main A0 c0 l0 a1 w hr0 hc0 hl l1 out1 hd (by omega) _ rfl
      rw [hrun] at h
      subst ho'
      refine hm.mono ?_
      intro e w' he
      by_cases hl1 : l1 = []
      · rw [if_pos hl1] at he
        subst hl1
        have : rrun a1 (.start, o') [] = .ok o' := by show RS.run _ _ _ _ _ = _; simp [RS.run, RS.steps, RS.fin, hne]
        rw [this] at h
        simp only [Option.some.injEq, Prod.mk.injEq] at h
        obtain ⟨rfl, rfl, rfl⟩ := h
        exact he
      · rw [if_neg hl1] at he
        have h2 := alts_run a1 (l1.length + 1) l1 o' (Nat.lt_succ_self _) hl1
        cases ha : altsGo a1 (l1.length + 1) l1 (o'.map altOf) with
        | error p =>
          obtain ⟨pc, pp⟩ := p
          rw [ha] at h2 he
          simp only at h2
          rw [h2] at h
          simp only [Option.some.injEq, Prod.mk.injEq] at h
          obtain ⟨rfl, rfl, rfl⟩ := h
          exact he
        | ok o2 =>
          rw [ha] at h2 he
          obtain ⟨o3, rfl, h3⟩ := h2
          rw [h3] at h
          simp only [Option.some.injEq, Prod.mk.injEq] at h
          obtain ⟨rfl, rfl, rfl⟩ := h
          exact he
  · rw [if_neg hl] at h; cases h

end Go.Proofs.Ytilldpmlcgikdaa.P
