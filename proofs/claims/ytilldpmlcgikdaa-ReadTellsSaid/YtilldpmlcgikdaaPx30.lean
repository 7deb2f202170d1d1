-- Written by this session's own program wip/gen.py; Lean checks it.
import Derived.Test.YtilldpmlcgikdaaPx0
import Derived.Test.YtilldpmlcgikdaaPx24
import Derived.Test.YtilldpmlcgikdaaLexSpec
import Derived.Test.YtilldpmlcgikdaaBase
namespace Go.Proofs.Ytilldpmlcgikdaa.P
open Go.RowKit Go.Proofs.YtilldpmlcgikdaaW.PrintWords Go.Proofs.YtilldpmlcgikdaaW.PrintLast Go.Proofs.YtilldpmlcgikdaaW.PrintMore
attribute [local go_sem] max2_int min2_int max_two min_two max_three min_three max_four min_four   -- for this text's walks alone
set_option linter.unusedVariables false
set_option linter.unusedSimpArgs false

/-! ### lex_IsTerm: function 30 -/
-- import Derived.Test.YtilldpmlcgikdaaLexSpec
-- import Derived.Test.YtilldpmlcgikdaaBase
open Go.Proofs.Ytilldpmlcgikdaa.Base
def lex_IsTerm.f (a0 : ByteArray) : Option Bool := if a0.size ≤ 4611686018427387904 then some (LexSpec.isTerm (bytesOf a0)) else none
theorem lex_IsTerm.of (a0 : ByteArray) (h : a0.size ≤ 4611686018427387904) : lex_IsTerm.f a0 = some (LexSpec.isTerm (bytesOf a0)) := by unfold lex_IsTerm.f; rw [if_pos h]
set_option maxHeartbeats 800000 in
theorem lex_IsTerm.calls (a0 : ByteArray) (r : Bool) (w : World) (h : lex_IsTerm.f a0 = some r) :
    Calls Try.prog 30 #[.string a0] w fun e w' => e = .returned (.bool r) ∧ Drawn0 w w' := by
  unfold lex_IsTerm.f at h
  by_cases hs : a0.size ≤ 4611686018427387904
  · rw [if_pos hs] at h
    have h := Option.some.inj h
    unfold LexSpec.isTerm at h
    rw [bytesOf_length] at h
    by_cases h0 : a0.size = 0
    · have hr : r = false := by rw [← h]; simp [h0]
      subst hr
      clear h
      have k0 : decide ((1 : Int) ≤ (a0.size : Int)) = false := decide_eq_false (by omega)
      have k1 : decide (1 ≤ a0.size) = false := decide_eq_false (by omega)
      clear h0
      go_enter Try.func30, Try.ntmps30
      go_wp2
      go_ret
      exact ⟨rfl, Drawn0.refl _⟩
    · have k0 : decide ((1 : Int) ≤ (a0.size : Int)) = true := decide_eq_true (by omega)
      have k1 : decide (1 ≤ a0.size) = true := decide_eq_true (by omega)
      by_cases h16 : a0.size ≤ 16
      · have k2 : decide ((a0.size : Int) ≤ 16) = true := decide_eq_true (by omega)
        have k3 : decide (a0.size ≤ 16) = true := decide_eq_true (by omega)
        rw [k1, k3] at h
        simp only [Bool.true_and] at h
        have HR := Aside0.mk h
        clear h0 h
        go_enter Try.func30, Try.ntmps30
        go_wp2_with (first | (go_at_call 24; refine (lex_run.inside_ _ _ hs).mono ?_; rintro e w' ⟨rfl, ⟨nd2, rfl⟩⟩))
        go_ret
        refine ⟨?_, by repeat (first | exact Drawn0.refl _ | apply Drawn0.step)⟩
        rw [← HR.out]; exact ret_bool (beq_cast _ _)
      · have k2 : decide ((a0.size : Int) ≤ 16) = false := decide_eq_false (by omega)
        have k3 : decide (a0.size ≤ 16) = false := decide_eq_false (by omega)
        rw [k1, k3] at h
        simp only [Bool.true_and, Bool.false_and] at h
        subst h
        clear h0 h16
        go_enter Try.func30, Try.ntmps30
        go_wp2
        go_ret
        exact ⟨rfl, Drawn0.refl _⟩
  · rw [if_neg hs] at h; cases h

end Go.Proofs.Ytilldpmlcgikdaa.P
