-- Written by this session's own program wip/gen.py; Lean checks it.
import Derived.Test.YtilldpmlcgikdaaPx0
namespace Go.Proofs.Ytilldpmlcgikdaa.P
open Go.RowKit Go.Proofs.YtilldpmlcgikdaaW.PrintWords Go.Proofs.YtilldpmlcgikdaaW.PrintLast Go.Proofs.YtilldpmlcgikdaaW.PrintMore
attribute [local go_sem] max2_int min2_int max_two min_two max_three min_three max_four min_four   -- for this text's walks alone
set_option linter.unusedVariables false
set_option linter.unusedSimpArgs false

/-! ### lex_signs: function 31 -/
def lex_signs.f (a0 : Int) : Option (Int) := if a0 = 61 then (some 3) else (if a0 = 124 then (some 4) else (if a0 = 59 then (some 5) else (some 0)))
set_option maxHeartbeats 8000000 in
set_option maxRecDepth 100000 in
theorem lex_signs.calls (a0 : Int) (r : Int) (w : World) (h : lex_signs.f a0 = some r) :
    Calls Try.prog 31 #[.int .u8 a0] w fun e w' => e = .returned (.int .i64 r) ∧ Drawn0 w w' := by
  have H : (if a0 = 61 then (some 3) else (if a0 = 124 then (some 4) else (if a0 = 59 then (some 5) else (some 0)))) = some r := h
  clear h
  by_cases c2 : a0 = 61
  · rw [if_pos c2] at H
    have c2b0 : (a0 == 61) = true := beq_iff_eq.mpr c2
    have c2b1 : (a0 != 61) = false := bne_eq_false_iff_eq.mpr c2
    clear c2
    obtain rfl := Option.some.inj H
    go_enter Try.func31, Try.ntmps31
    go_wp2
    go_ret
    exact ⟨by first | rfl | (simp; done) | (simp [*]; done), by repeat (first | exact Drawn0.refl _ | apply Drawn0.step)⟩
  · rw [if_neg c2] at H
    have c2b0 : (a0 == 61) = false := beq_eq_false_iff_ne.mpr c2
    have c2b1 : (a0 != 61) = true := bne_iff_ne.mpr c2
    by_cases c3 : a0 = 124
    · rw [if_pos c3] at H
      have c3b0 : (a0 == 124) = true := beq_iff_eq.mpr c3
      have c3b1 : (a0 != 124) = false := bne_eq_false_iff_eq.mpr c3
      clear c3
      obtain rfl := Option.some.inj H
      go_enter Try.func31, Try.ntmps31
      go_wp2
      go_ret
      exact ⟨by first | rfl | (simp; done) | (simp [*]; done), by repeat (first | exact Drawn0.refl _ | apply Drawn0.step)⟩
    · rw [if_neg c3] at H
      have c3b0 : (a0 == 124) = false := beq_eq_false_iff_ne.mpr c3
      have c3b1 : (a0 != 124) = true := bne_iff_ne.mpr c3
      by_cases c4 : a0 = 59
      · rw [if_pos c4] at H
        have c4b0 : (a0 == 59) = true := beq_iff_eq.mpr c4
        have c4b1 : (a0 != 59) = false := bne_eq_false_iff_eq.mpr c4
        clear c4
        obtain rfl := Option.some.inj H
        go_enter Try.func31, Try.ntmps31
        go_wp2
        go_ret
        exact ⟨by first | rfl | (simp; done) | (simp [*]; done), by repeat (first | exact Drawn0.refl _ | apply Drawn0.step)⟩
      · rw [if_neg c4] at H
        have c4b0 : (a0 == 59) = false := beq_eq_false_iff_ne.mpr c4
        have c4b1 : (a0 != 59) = true := bne_iff_ne.mpr c4
        obtain rfl := Option.some.inj H
        go_enter Try.func31, Try.ntmps31
        go_wp2
        go_ret
        exact ⟨by first | rfl | (simp; done) | (simp [*]; done), by repeat (first | exact Drawn0.refl _ | apply Drawn0.step)⟩

end Go.Proofs.Ytilldpmlcgikdaa.P
