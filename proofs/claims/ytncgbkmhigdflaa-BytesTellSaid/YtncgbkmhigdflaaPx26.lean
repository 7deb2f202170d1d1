-- Written by this session's own program wip/gen.py; Lean checks it.
import Derived.Test.YtncgbkmhigdflaaPx0
namespace Go.Proofs.Ytncgbkmhigdflaa.P
open Go.RowKit Go.Proofs.YtncgbkmhigdflaaW.PrintWords Go.Proofs.YtncgbkmhigdflaaW.PrintLast Go.Proofs.YtncgbkmhigdflaaW.PrintMore
attribute [local go_sem] max2_int min2_int max_two min_two max_three min_three max_four min_four   -- for this text's walks alone
set_option linter.unusedVariables false
set_option linter.unusedSimpArgs false

/-! ### bytes_num: function 26 -/
/-- The number that bytes begin with: how many bytes there are to look at yet, which byte it is, what was gathered. -/
def numGo (l : List Int) : Nat → Nat → Int → Option (Int × Int)
  | 0, _, _ => none
  | k + 1, i, acc =>
    if i < min l.length 5 then
      if Go.bits .and .u8 (rd l (i : Int)) 128 = 0 then
        if Go.bits .or .i64 acc (wrap64 (wrap64 (Go.bits .and .u8 (rd l (i : Int)) 127) * 2 ^ (7 * i))) > 2147483647 then none
        else if rd l (i : Int) = 0 ∧ 0 < i then none
        else some (Go.bits .or .i64 acc (wrap64 (wrap64 (Go.bits .and .u8 (rd l (i : Int)) 127) * 2 ^ (7 * i))), (i : Int) + 1)
      else numGo l k (i + 1) (Go.bits .or .i64 acc (wrap64 (wrap64 (Go.bits .and .u8 (rd l (i : Int)) 127) * 2 ^ (7 * i))))
    else none
def bytes_num.f (l0 : List Int) : Option (Int × Int) := numGo l0 6 0 0
def NumEnd (w0 : World) (o : Option (Int × Int)) (e : Ending) (w' : World) : Prop :=
  match o with
  | some (n, u) => e = .returned (.tuple #[.int .i64 n, .int .i64 u]) ∧ Drawn0 w0 w'
  | none => e = .panicked [{ v := .iface 56 (.agg #[.int .i64 16]), recovered := false }] ∧ Drawn0 w0 w'
set_option maxHeartbeats 1600000 in
theorem bytes_num.any (A0 : Option Addr) (c0 : Nat) (l0 : List Int) (o : Option (Int × Int)) (w : World) (hr0 : Kd.C (Kd.int .u8) w A0 l0.length l0) (hc0 : l0.length ≤ c0) (h : bytes_num.f l0 = o) :
    Calls Try.prog 26 #[.slice A0 l0.length c0] w (NumEnd w o) := by
  have HO := Aside0.mk h
  have HR0 := Aside0.mk hr0
  have HC0 := Aside0.mk hc0
  obtain ⟨m, hm⟩ : ∃ m : Nat, min l0.length 5 = m := ⟨_, rfl⟩
  have hm_ : (if (5 : Int) < (l0.length : Int) then (5 : Int) else (l0.length : Int)) = (m : Int) := by split <;> omega
  have hm1 : m ≤ c0 := by omega
  clear h hr0 hc0
  go_enter Try.func26, Try.ntmps26
  go_wp2
  go_loopw [4, 13] (fun v4 v13 w' => ∃ (i : Nat) (acc : Int), v4 = .int .i64 acc ∧ v13 = .int .i64 (i : Int) ∧ i ≤ m ∧ Aside0 (numGo l0 (6 - i) i acc = o) ∧ Drawn0 w w') (fun _ v13 _ => m - (intOf v13).toNat)
  case atStart => exact ⟨0, 0, rfl, rfl, by omega, ⟨HO.out⟩, Drawn0.refl _⟩
  case round =>
    obtain ⟨i, acc, rfl, rfl, hi, HA, ⟨nd, rfl⟩⟩ := hrel
    by_cases hlt : i < m
    · obtain ⟨ad, hA, hcell⟩ := Kd.at_int HR0.out (i : Int) (by omega) (by omega)
      rw [Int.toNat_natCast] at hcell
      have hs := HA.out
      rw [show 6 - i = (5 - i) + 1 from by omega] at hs
      simp only [numGo] at hs
      rw [if_pos (show i < min l0.length 5 from by omega)] at hs
      generalize hc : rd l0 (i : Int) = c at *
      clear hc HA
      by_cases h1 : Go.bits .and .u8 c 128 = 0
      · have b1 : (Go.bits .and .u8 c 128 != 0) = false := by simp [h1]
        rw [if_pos h1] at hs
        by_cases h2 : (Go.bits .or .i64 acc (wrap64 (wrap64 (Go.bits .and .u8 c 127) * 2 ^ (7 * i)))) > 2147483647
        · rw [if_pos h2] at hs
          subst hs
          have b2 : decide (2147483647 < (Go.bits .or .i64 acc (wrap64 (wrap64 (Go.bits .and .u8 c 127) * 2 ^ (7 * i))))) = true := decide_eq_true h2
          go_wp2
          all_goals exact ⟨rfl, rfl, by repeat (first | exact Drawn0.refl _ | apply Drawn0.step)⟩
        · rw [if_neg h2] at hs
          have b2 : decide (2147483647 < (Go.bits .or .i64 acc (wrap64 (wrap64 (Go.bits .and .u8 c 127) * 2 ^ (7 * i))))) = false := decide_eq_false h2
          by_cases h3 : c = 0 ∧ 0 < i
          · rw [if_pos h3] at hs
            subst hs
            obtain ⟨rfl, h4⟩ := h3
            have b4 : decide ((0 : Int) < (i : Int)) = true := decide_eq_true (by omega)
            have b5 : decide (0 < i) = true := decide_eq_true (by omega)
            go_wp2
            all_goals exact ⟨rfl, rfl, by repeat (first | exact Drawn0.refl _ | apply Drawn0.step)⟩
          · rw [if_neg h3] at hs
            subst hs
            by_cases h4 : c = 0
            · have h5 : i = 0 := by omega
              subst h4
              have b4 : decide ((0 : Int) < (i : Int)) = false := decide_eq_false (by omega)
              have b5 : decide (0 < i) = false := decide_eq_false (by omega)
              try clear h3
              try clear h5
              go_wp2
              refine ⟨rfl, .tuple #[.int .i64 (Go.bits .or .i64 acc (wrap64 (wrap64 (Go.bits .and .u8 0 127) * 2 ^ (7 * i)))), .int .i64 ((i : Int) + 1)], by simp [results, Try.results26, go_sem], rfl, ?_⟩
              repeat (first | exact Drawn0.refl _ | apply Drawn0.step)
            · have b3 : (c == 0) = false := by simp [h4]
              try clear h3
              try clear h5
              go_wp2
              refine ⟨rfl, .tuple #[.int .i64 (Go.bits .or .i64 acc (wrap64 (wrap64 (Go.bits .and .u8 c 127) * 2 ^ (7 * i)))), .int .i64 ((i : Int) + 1)], by simp [results, Try.results26, go_sem], rfl, ?_⟩
              repeat (first | exact Drawn0.refl _ | apply Drawn0.step)
      · have b1 : (Go.bits .and .u8 c 128 != 0) = true := by simp [h1]
        rw [if_neg h1] at hs
        have HA := Aside0.mk hs
        clear hs
        go_wp2
        go_roundw
        case rel => exact ⟨i + 1, _, rfl, by go_num, by omega, ⟨by rw [show 6 - (i + 1) = 5 - i from by omega]; exact HA.out⟩, by repeat (first | exact Drawn0.refl _ | apply Drawn0.step)⟩
        case measure => simp [intOf]; omega
    · have hs := HA.out
      have hn : numGo l0 (6 - i) i acc = none := by
        rw [show 6 - i = (5 - i) + 1 from by omega]
        simp only [numGo]
        rw [if_neg (by omega)]
      rw [hn] at hs
      subst hs
      obtain rfl : i = m := by omega
      clear hlt
      go_wp2
      all_goals exact ⟨rfl, rfl, by repeat (first | exact Drawn0.refl _ | apply Drawn0.step)⟩

end Go.Proofs.Ytncgbkmhigdflaa.P
