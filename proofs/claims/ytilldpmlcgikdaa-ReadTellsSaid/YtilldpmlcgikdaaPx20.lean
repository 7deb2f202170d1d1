-- Written by this session's own program wip/gen.py; Lean checks it.
import Derived.Test.YtilldpmlcgikdaaPx0
import Derived.Test.YtilldpmlcgikdaaPx24
import Derived.Test.YtilldpmlcgikdaaLexSpec
import Derived.Test.YtilldpmlcgikdaaBase
namespace Go.Proofs.Ytilldpmlcgikdaa.P
open Go.RowKit Go.Proofs.YtilldpmlcgikdaaW.PrintWords Go.Proofs.YtilldpmlcgikdaaW.PrintLast Go.Proofs.YtilldpmlcgikdaaW.PrintMore
attribute [local go_sem] max2_int min2_int max_two min_two max_three min_three max_four min_four   -- for this text's walks alone
set_option linter.unusedVariables false
set_option linter.unusedSimpArgs false

/-! ### lex_skipped: function 20 -/
-- import Derived.Test.YtilldpmlcgikdaaLexSpec
-- import Derived.Test.YtilldpmlcgikdaaBase
open Go.Proofs.Ytilldpmlcgikdaa.Base
def lex_skipped.f (a0 : ByteArray) : Option Int := if a0.size ≤ 4611686018427387904 then some (LexSpec.skip false (bytesOf a0) : Int) else none
theorem lex_skipped.of (a0 : ByteArray) (h : a0.size ≤ 4611686018427387904) : lex_skipped.f a0 = some (LexSpec.skip false (bytesOf a0) : Int) := by unfold lex_skipped.f; rw [if_pos h]
theorem drop_cons (s : ByteArray) (n : Nat) (h : n < s.size) : (bytesOf s).drop n = ((s[n]'h).toNat : Int) :: (bytesOf s).drop (n + 1) := by
  rw [List.drop_eq_getElem_cons (by rw [bytesOf_length]; exact h)]
  congr 1
  rw [← bytesOf_getD s n h, List.getD_eq_getElem?_getD, List.getElem?_eq_getElem (by rw [bytesOf_length]; exact h)]
  rfl
set_option maxHeartbeats 1600000 in
theorem lex_skipped.calls (a0 : ByteArray) (r : Int) (w : World) (h : lex_skipped.f a0 = some r) :
    Calls Try.prog 20 #[.string a0] w fun e w' => e = .returned (.int .i64 r) ∧ Drawn0 w w' := by
  unfold lex_skipped.f at h
  by_cases hs : a0.size ≤ 4611686018427387904
  · rw [if_pos hs] at h
    have h := Option.some.inj h
    have HR := Aside0.mk h
    clear h
    go_enter Try.func20, Try.ntmps20
    go_wp2
    go_loopw [2, 3] (fun v i w' => ∃ n : Nat, v = .int .i64 0 ∧ n ≤ a0.size ∧ i = .int .i64 n ∧ Aside0 ((n : Int) + (LexSpec.skip false ((bytesOf a0).drop n) : Int) = r) ∧ Drawn0 w w') (fun _ i _ => a0.size - (intOf i).toNat)
    case atStart => exact ⟨0, rfl, by omega, rfl, ⟨by have := HR.out; simpa using this⟩, Drawn0.refl _⟩
    case round =>
      obtain ⟨n, rfl, hn, rfl, HA, ⟨m, rfl⟩⟩ := hrel
      by_cases hlt : n < a0.size
      · have hd := drop_cons a0 n hlt
        have HD := Aside0.mk hd
        clear hd
        generalize hc : ((a0[n]'hlt).toNat : Int) = c at *
        have HC := Aside0.mk hc
        have hr := HA.out
        rw [HD.out] at hr
        clear HA
        have HLT := Aside0.mk hlt
        by_cases c32 : c = 32
        · have HH := Aside0.mk (show ((n + 1 : Nat) : Int) + (LexSpec.skip false ((bytesOf a0).drop (n + 1)) : Int) = r by rw [← hr]; simp [LexSpec.skip, c32]; omega)
          have b1 : (c == 32) = true := by simp [c32]
          clear c32 hr
          go_wp2
          go_roundw
          case rel => exact ⟨n + 1, rfl, HLT.out, by go_num, HH, by repeat (first | exact Drawn0.refl _ | apply Drawn0.step)⟩
          case measure => simp [intOf]; have := HLT.out; omega
        · by_cases c9 : c = 9
          · have HH := Aside0.mk (show ((n + 1 : Nat) : Int) + (LexSpec.skip false ((bytesOf a0).drop (n + 1)) : Int) = r by rw [← hr]; simp [LexSpec.skip, c9]; omega)
            have b1 : (c == 32) = false := by simp [c32]
            have b2 : (c == 9) = true := by simp [c9]
            clear c32 c9 hr
            go_wp2
            go_roundw
            case rel => exact ⟨n + 1, rfl, HLT.out, by go_num, HH, by repeat (first | exact Drawn0.refl _ | apply Drawn0.step)⟩
            case measure => simp [intOf]; have := HLT.out; omega
          · by_cases c10 : c = 10
            · have HH := Aside0.mk (show ((n + 1 : Nat) : Int) + (LexSpec.skip false ((bytesOf a0).drop (n + 1)) : Int) = r by rw [← hr]; simp [LexSpec.skip, c10]; omega)
              have b1 : (c == 32) = false := by simp [c32]
              have b2 : (c == 9) = false := by simp [c9]
              have b3 : (c == 10) = true := by simp [c10]
              clear c32 c9 c10 hr
              go_wp2
              go_roundw
              case rel => exact ⟨n + 1, rfl, HLT.out, by go_num, HH, by repeat (first | exact Drawn0.refl _ | apply Drawn0.step)⟩
              case measure => simp [intOf]; have := HLT.out; omega
            · have b1 : (c == 32) = false := by simp [c32]
              have b2 : (c == 9) = false := by simp [c9]
              have b3 : (c == 10) = false := by simp [c10]
              by_cases c35 : c = 35
              · have hk : LexSpec.run LexSpec.noNl ((bytesOf a0).drop n) ≤ a0.size - n := by
                  have := LexSpec.run_le LexSpec.noNl ((bytesOf a0).drop n); rwa [List.length_drop, bytesOf_length] at this
                have hp : 0 < LexSpec.run LexSpec.noNl ((bytesOf a0).drop n) := by rw [HD.out, c35]; simp [LexSpec.run, LexSpec.noNl]
                have hh : ((n + LexSpec.run LexSpec.noNl ((bytesOf a0).drop n) : Nat) : Int) + (LexSpec.skip false ((bytesOf a0).drop (n + LexSpec.run LexSpec.noNl ((bytesOf a0).drop n))) : Int) = r := by
                  rw [← hr, c35, LexSpec.skip_hash, ← c35, ← HD.out, List.drop_drop]; omega
                have hb : bytesOf (a0.extract n a0.size) = (bytesOf a0).drop n := bytesOf_tail a0 n
                generalize hk0 : LexSpec.run LexSpec.noNl ((bytesOf a0).drop n) = k at *
                have HK := Aside0.mk hk0
                clear hk0
                have hz : (a0.extract n a0.size).size ≤ 4611686018427387904 := by rw [size_tail]; omega
                have HH := Aside0.mk hh
                have HB := Aside0.mk hb
                have b4 : (c == 35) = true := by simp [c35]
                have hkk : n + k ≤ a0.size := by omega
                clear c32 c9 c10 c35 hr hh hb
                have HX : ∀ W, Calls Try.prog 24 #[.string (a0.extract n a0.size), .func (.func 25) #[] #[]] W fun e w' => e = .returned (.int .i64 k) ∧ Drawn0 W w' := by
                  intro W
                  refine (lex_run.noNl_ _ W hz).mono fun e w2 hp2 => ?_
                  rw [HB.out, HK.out] at hp2
                  exact hp2
                have HX := Aside0.mk HX
                go_wp2_with (first | (go_at_call 24; refine (HX.out _).mono ?_; rintro e w' ⟨rfl, ⟨nd, rfl⟩⟩))
                go_roundw
                case rel => exact ⟨n + k, rfl, hkk, by go_num, HH, by repeat (first | exact Drawn0.refl _ | apply Drawn0.step)⟩
                case measure => simp [intOf]; omega
              · have hh : (n : Int) = r := by
                  rw [← hr]; simp [LexSpec.skip, c32, c9, c10, c35]
                have HH := Aside0.mk hh
                have b4 : (c == 35) = false := by simp [c35]
                clear c32 c9 c10 c35 hr hh
                go_wp2
                go_ret
                exact ⟨ret_int HH.out, by repeat (first | exact Drawn0.refl _ | apply Drawn0.step)⟩
      · obtain rfl : n = a0.size := by omega
        have hh : (a0.size : Int) = r := by
          rw [← HA.out, List.drop_of_length_le (by rw [bytesOf_length]; omega)]; simp [LexSpec.skip]
        have HH := Aside0.mk hh
        clear HA hh
        go_wp2
        go_ret
        exact ⟨ret_int HH.out, by repeat (first | exact Drawn0.refl _ | apply Drawn0.step)⟩
  · rw [if_neg hs] at h; cases h

end Go.Proofs.Ytilldpmlcgikdaa.P
