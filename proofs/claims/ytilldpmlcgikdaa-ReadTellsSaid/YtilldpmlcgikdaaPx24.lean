-- Written by this session's own program wip/gen.py; Lean checks it.
import Derived.Test.YtilldpmlcgikdaaPx0
import Derived.Test.YtilldpmlcgikdaaPx26
import Derived.Test.YtilldpmlcgikdaaPx27
import Derived.Test.YtilldpmlcgikdaaPx29
import Derived.Test.YtilldpmlcgikdaaLexSpec
import Derived.Test.YtilldpmlcgikdaaBase
namespace Go.Proofs.Ytilldpmlcgikdaa.P
open Go.RowKit Go.Proofs.YtilldpmlcgikdaaW.PrintWords Go.Proofs.YtilldpmlcgikdaaW.PrintLast Go.Proofs.YtilldpmlcgikdaaW.PrintMore
attribute [local go_sem] max2_int min2_int max_two min_two max_three min_three max_four min_four   -- for this text's walks alone
set_option linter.unusedVariables false
set_option linter.unusedSimpArgs false

/-! ### lex_run: function 24 -/
-- import Derived.Test.YtilldpmlcgikdaaLexSpec
-- import Derived.Test.YtilldpmlcgikdaaBase
open Go.Proofs.Ytilldpmlcgikdaa.Base
theorem lex_letter.is (c : Int) (w : World) : Calls Try.prog 26 #[.int .u8 c] w fun e w' => e = .returned (.bool (LexSpec.letter c)) ∧ Drawn0 w w' := by
  refine lex_letter.calls c _ w ?_
  unfold lex_letter.f LexSpec.letter
  by_cases h1 : c ≥ 97 <;> by_cases h2 : c ≤ 122 <;> by_cases h3 : c ≥ 65 <;> by_cases h4 : c ≤ 90 <;> simp [*] <;> omega
theorem lex_inner.is (c : Int) (w : World) : Calls Try.prog 27 #[.int .u8 c] w fun e w' => e = .returned (.bool (LexSpec.inner c)) ∧ Drawn0 w w' := by
  refine lex_inner.calls c _ w ?_
  unfold lex_inner.f lex_letter.f LexSpec.inner LexSpec.letter
  by_cases h1 : c ≥ 97 <;> by_cases h2 : c ≤ 122 <;> by_cases h3 : c ≥ 65 <;> by_cases h4 : c ≤ 90 <;> by_cases h5 : c ≥ 48 <;> by_cases h6 : c ≤ 57 <;> simp [*] <;> omega
theorem lex_inside.is (c : Int) (w : World) : Calls Try.prog 29 #[.int .u8 c] w fun e w' => e = .returned (.bool (LexSpec.inside c)) ∧ Drawn0 w w' := by
  refine lex_inside.calls c _ w ?_
  unfold lex_inside.f LexSpec.inside
  by_cases h1 : c ≥ 32 <;> by_cases h2 : c ≤ 126 <;> simp [*] <;> omega
theorem lex_noNl.is (c : Int) (w : World) : Calls Try.prog 25 #[.int .u8 c] w fun e w' => e = .returned (.bool (LexSpec.noNl c)) ∧ Drawn0 w w' := by
  go_enter Try.func25, Try.ntmps25
  go_wp2
  go_ret
  exact ⟨rfl, Drawn0.refl _⟩
set_option maxHeartbeats 800000 in
theorem lex_run.inner_ (s : ByteArray) (w : World) (hs : s.size ≤ 4611686018427387904) :
    Calls Try.prog 24 #[.string s, .func (.func 27) #[] #[]] w fun e w' => e = .returned (.int .i64 (LexSpec.run LexSpec.inner (bytesOf s))) ∧ Drawn0 w w' := by
  go_enter Try.func24, Try.ntmps24
  go_wp2
  go_loopw [5] (fun i w' => ∃ n : Nat, n ≤ s.size ∧ i = .int .i64 n ∧ Aside0 (∀ j, j < n → LexSpec.inner ((bytesOf s).getD j 0) = true) ∧ Drawn0 w w') (fun i _ => s.size - (intOf i).toNat)
  case atStart => exact ⟨0, by omega, rfl, ⟨fun j hj => absurd hj (by omega)⟩, Drawn0.refl _⟩
  case round =>
    obtain ⟨n, hn, rfl, HA, ⟨m, rfl⟩⟩ := hrel
    by_cases hlt : n < s.size
    · have e0 : (bytesOf s).getD n 0 = ((s[n]'hlt).toNat : Int) := bytesOf_getD s n hlt
      cases hb : LexSpec.inner ((s[n]'hlt).toNat : Int)
      · have HB := Aside0.mk hb
        have HE := Aside0.mk e0
        clear hb e0
        go_wp2_with (first | (go_at_call 27; refine (lex_inner.is _ _).mono ?_; rintro e w' ⟨rfl, ⟨nd, rfl⟩⟩; rw [HB.out]))
        go_ret
        refine ⟨?_, by repeat (first | exact Drawn0.refl _ | apply Drawn0.step)⟩
        rw [LexSpec.run_eq _ _ n HA.out (by rw [bytesOf_length]; exact hn) (fun _ => by rw [HE.out]; exact HB.out)]; rfl
      · have HB := Aside0.mk hb
        have HE := Aside0.mk e0
        clear hb e0
        go_wp2_with (first | (go_at_call 27; refine (lex_inner.is _ _).mono ?_; rintro e w' ⟨rfl, ⟨nd, rfl⟩⟩; rw [HB.out]))
        go_roundw
        case rel => exact ⟨n + 1, hlt, by go_num, ⟨fun j hj => by
          by_cases hjn : j = n
          · subst hjn; rw [HE.out]; exact HB.out
          · exact HA.out j (by omega)⟩, by repeat (first | exact Drawn0.refl _ | apply Drawn0.step)⟩
        case measure => simp [intOf]; omega
    · obtain rfl : n = s.size := by omega
      go_wp2_with fail
      go_ret
      refine ⟨?_, by repeat (first | exact Drawn0.refl _ | apply Drawn0.step)⟩
      rw [LexSpec.run_eq _ _ s.size HA.out (by rw [bytesOf_length]; exact Nat.le_refl _) (fun h => by rw [bytesOf_length] at h; omega)]; rfl
set_option maxHeartbeats 800000 in
theorem lex_run.inside_ (s : ByteArray) (w : World) (hs : s.size ≤ 4611686018427387904) :
    Calls Try.prog 24 #[.string s, .func (.func 29) #[] #[]] w fun e w' => e = .returned (.int .i64 (LexSpec.run LexSpec.inside (bytesOf s))) ∧ Drawn0 w w' := by
  go_enter Try.func24, Try.ntmps24
  go_wp2
  go_loopw [5] (fun i w' => ∃ n : Nat, n ≤ s.size ∧ i = .int .i64 n ∧ Aside0 (∀ j, j < n → LexSpec.inside ((bytesOf s).getD j 0) = true) ∧ Drawn0 w w') (fun i _ => s.size - (intOf i).toNat)
  case atStart => exact ⟨0, by omega, rfl, ⟨fun j hj => absurd hj (by omega)⟩, Drawn0.refl _⟩
  case round =>
    obtain ⟨n, hn, rfl, HA, ⟨m, rfl⟩⟩ := hrel
    by_cases hlt : n < s.size
    · have e0 : (bytesOf s).getD n 0 = ((s[n]'hlt).toNat : Int) := bytesOf_getD s n hlt
      cases hb : LexSpec.inside ((s[n]'hlt).toNat : Int)
      · have HB := Aside0.mk hb
        have HE := Aside0.mk e0
        clear hb e0
        go_wp2_with (first | (go_at_call 29; refine (lex_inside.is _ _).mono ?_; rintro e w' ⟨rfl, ⟨nd, rfl⟩⟩; rw [HB.out]))
        go_ret
        refine ⟨?_, by repeat (first | exact Drawn0.refl _ | apply Drawn0.step)⟩
        rw [LexSpec.run_eq _ _ n HA.out (by rw [bytesOf_length]; exact hn) (fun _ => by rw [HE.out]; exact HB.out)]; rfl
      · have HB := Aside0.mk hb
        have HE := Aside0.mk e0
        clear hb e0
        go_wp2_with (first | (go_at_call 29; refine (lex_inside.is _ _).mono ?_; rintro e w' ⟨rfl, ⟨nd, rfl⟩⟩; rw [HB.out]))
        go_roundw
        case rel => exact ⟨n + 1, hlt, by go_num, ⟨fun j hj => by
          by_cases hjn : j = n
          · subst hjn; rw [HE.out]; exact HB.out
          · exact HA.out j (by omega)⟩, by repeat (first | exact Drawn0.refl _ | apply Drawn0.step)⟩
        case measure => simp [intOf]; omega
    · obtain rfl : n = s.size := by omega
      go_wp2_with fail
      go_ret
      refine ⟨?_, by repeat (first | exact Drawn0.refl _ | apply Drawn0.step)⟩
      rw [LexSpec.run_eq _ _ s.size HA.out (by rw [bytesOf_length]; exact Nat.le_refl _) (fun h => by rw [bytesOf_length] at h; omega)]; rfl
set_option maxHeartbeats 800000 in
theorem lex_run.noNl_ (s : ByteArray) (w : World) (hs : s.size ≤ 4611686018427387904) :
    Calls Try.prog 24 #[.string s, .func (.func 25) #[] #[]] w fun e w' => e = .returned (.int .i64 (LexSpec.run LexSpec.noNl (bytesOf s))) ∧ Drawn0 w w' := by
  go_enter Try.func24, Try.ntmps24
  go_wp2
  go_loopw [5] (fun i w' => ∃ n : Nat, n ≤ s.size ∧ i = .int .i64 n ∧ Aside0 (∀ j, j < n → LexSpec.noNl ((bytesOf s).getD j 0) = true) ∧ Drawn0 w w') (fun i _ => s.size - (intOf i).toNat)
  case atStart => exact ⟨0, by omega, rfl, ⟨fun j hj => absurd hj (by omega)⟩, Drawn0.refl _⟩
  case round =>
    obtain ⟨n, hn, rfl, HA, ⟨m, rfl⟩⟩ := hrel
    by_cases hlt : n < s.size
    · have e0 : (bytesOf s).getD n 0 = ((s[n]'hlt).toNat : Int) := bytesOf_getD s n hlt
      cases hb : LexSpec.noNl ((s[n]'hlt).toNat : Int)
      · have HB := Aside0.mk hb
        have HE := Aside0.mk e0
        clear hb e0
        go_wp2_with (first | (go_at_call 25; refine (lex_noNl.is _ _).mono ?_; rintro e w' ⟨rfl, ⟨nd, rfl⟩⟩; rw [HB.out]))
        go_ret
        refine ⟨?_, by repeat (first | exact Drawn0.refl _ | apply Drawn0.step)⟩
        rw [LexSpec.run_eq _ _ n HA.out (by rw [bytesOf_length]; exact hn) (fun _ => by rw [HE.out]; exact HB.out)]; rfl
      · have HB := Aside0.mk hb
        have HE := Aside0.mk e0
        clear hb e0
        go_wp2_with (first | (go_at_call 25; refine (lex_noNl.is _ _).mono ?_; rintro e w' ⟨rfl, ⟨nd, rfl⟩⟩; rw [HB.out]))
        go_roundw
        case rel => exact ⟨n + 1, hlt, by go_num, ⟨fun j hj => by
          by_cases hjn : j = n
          · subst hjn; rw [HE.out]; exact HB.out
          · exact HA.out j (by omega)⟩, by repeat (first | exact Drawn0.refl _ | apply Drawn0.step)⟩
        case measure => simp [intOf]; omega
    · obtain rfl : n = s.size := by omega
      go_wp2_with fail
      go_ret
      refine ⟨?_, by repeat (first | exact Drawn0.refl _ | apply Drawn0.step)⟩
      rw [LexSpec.run_eq _ _ s.size HA.out (by rw [bytesOf_length]; exact Nat.le_refl _) (fun h => by rw [bytesOf_length] at h; omega)]; rfl

end Go.Proofs.Ytilldpmlcgikdaa.P
