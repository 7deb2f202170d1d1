/- What D needs of this session's own texts, part 7: put together by wip/dce.py. -/
import Derived.Test.YtfjfbapiheehaaaK6D
import Derived.Lib.Strings
import Derived.Laws.Strings
section
set_option linter.unusedVariables false
set_option linter.unusedSimpArgs false
namespace Go.Proofs.Ytfjfbapiheehaaa.Base
open Go.RowKit Go.Proofs.YtfjfbapiheehaaaW.PrintWords
theorem ret_bool {a b : Bool} (h : a = b) : Ending.returned (.bool a) = .returned (.bool b) := by rw [h]
theorem ret_int {k : IntKind} {a b : Int} (h : a = b) : Ending.returned (.int k a) = .returned (.int k b) := by rw [h]
theorem beq_cast (a b : Nat) : ((a : Int) == (b : Int)) = (a == b) := by rw [Bool.eq_iff_iff]; simp only [beq_iff_eq]; omega
theorem bytesOf_getD (s : ByteArray) (n : Nat) (h : n < s.size) : (bytesOf s).getD n 0 = ((s[n]'h).toNat : Int) := by
 have h' : n < s.data.toList.length := by rw [data_length]; exact h
 unfold bytesOf
 simp [List.getD_eq_getElem?_getD, List.getElem?_eq_getElem h']
 rfl
theorem bytesOf_extract (s : ByteArray) (a b : Nat) : bytesOf (s.extract a b) = ((bytesOf s).drop a).take (b - a) := by
 unfold bytesOf
 rw [Lib.extract_data, List.map_take, List.map_drop]
theorem bytesOf_tail (s : ByteArray) (a : Nat) : bytesOf (s.extract a s.size) = (bytesOf s).drop a := by
 rw [bytesOf_extract, List.take_of_length_le (by rw [List.length_drop, bytesOf_length]; omega)]
theorem bytesOf_head (s : ByteArray) (b : Nat) : bytesOf (s.extract 0 b) = (bytesOf s).take b := by
 rw [bytesOf_extract, List.drop_zero, Nat.sub_zero]
theorem size_tail (s : ByteArray) (a : Nat) : (s.extract a s.size).size = s.size - a := by
 rw [← bytesOf_length, bytesOf_tail, List.length_drop, bytesOf_length]
theorem size_extract (s : ByteArray) (a b : Nat) (h : b ≤ s.size) : (s.extract a b).size = b - a := by
 rw [← bytesOf_length, bytesOf_extract, List.length_take, List.length_drop, bytesOf_length]; omega
theorem bytesOf_inj {s t : ByteArray} (h : bytesOf s = bytesOf t) : s = t := by
 have h2 : s.data.toList = t.data.toList := by
  unfold bytesOf at h
  refine List.map_inj_right (f := fun b : UInt8 => (b.toNat : Int)) (fun x y e => ?_) |>.1 h
  have : x.toNat = y.toNat := by have e2 : ((x.toNat : Nat) : Int) = ((y.toNat : Nat) : Int) := e; omega
  exact UInt8.toNat_inj.1 this
 cases s; cases t
 simp at h2
 simp [h2]
theorem extract_extract (s : ByteArray) (i a b : Nat) (hi : i ≤ s.size) (hb : i + b ≤ s.size) : (s.extract i s.size).extract a b = s.extract (i + a) (i + b) := by
 apply bytesOf_inj
 rw [bytesOf_extract, bytesOf_tail, bytesOf_extract, List.drop_drop]
 congr 1
 omega
theorem toList_data (s : ByteArray) : s.toList = s.data.toList := ByteArray.toList_eq s
theorem bytesOf_toList (s : ByteArray) : bytesOf s = s.toList.map fun b => (b.toNat : Int) := by rw [toList_data]; rfl
theorem toList_inj {s t : ByteArray} (h : s.toList = t.toList) : s = t := bytesOf_inj (by rw [bytesOf_toList, bytesOf_toList, h])
end Go.Proofs.Ytfjfbapiheehaaa.Base
end
section
namespace Go.Proofs.Ytfjfbapiheehaaa.P
open Go.RowKit Go.Proofs.YtfjfbapiheehaaaW.PrintWords Go.Proofs.YtfjfbapiheehaaaW.PrintLast Go.Proofs.YtfjfbapiheehaaaW.PrintMore
attribute [local go_sem] max2_int min2_int max_two min_two max_three min_three max_four min_four   -- for this text's walks alone
set_option linter.unusedVariables false
set_option linter.unusedSimpArgs false
open Go.Proofs.Ytfjfbapiheehaaa.Base
theorem lex_letter.is (c : Int) (w : World) : Calls Try.prog 81 #[.int .u8 c] w fun e w' => e = .returned (.bool (LexSpec.letter c)) ∧ Drawn0 w w' := by
 refine lex_letter.calls c _ w ?_
 unfold lex_letter.f LexSpec.letter
 by_cases h1 : c ≥ 97 <;> by_cases h2 : c ≤ 122 <;> by_cases h3 : c ≥ 65 <;> by_cases h4 : c ≤ 90 <;> simp [*] <;> omega
theorem lex_inner.is (c : Int) (w : World) : Calls Try.prog 83 #[.int .u8 c] w fun e w' => e = .returned (.bool (LexSpec.inner c)) ∧ Drawn0 w w' := by
 refine lex_inner.calls c _ w ?_
 unfold lex_inner.f lex_letter.f LexSpec.inner LexSpec.letter
 by_cases h1 : c ≥ 97 <;> by_cases h2 : c ≤ 122 <;> by_cases h3 : c ≥ 65 <;> by_cases h4 : c ≤ 90 <;> by_cases h5 : c ≥ 48 <;> by_cases h6 : c ≤ 57 <;> simp [*] <;> omega
theorem lex_inside.is (c : Int) (w : World) : Calls Try.prog 84 #[.int .u8 c] w fun e w' => e = .returned (.bool (LexSpec.inside c)) ∧ Drawn0 w w' := by
 refine lex_inside.calls c _ w ?_
 unfold lex_inside.f LexSpec.inside
 by_cases h1 : c ≥ 32 <;> by_cases h2 : c ≤ 126 <;> simp [*] <;> omega
theorem lex_noNl.is (c : Int) (w : World) : Calls Try.prog 88 #[.int .u8 c] w fun e w' => e = .returned (.bool (LexSpec.noNl c)) ∧ Drawn0 w w' := by
 go_enter Try.func88, Try.ntmps88
 go_wp2
 go_ret
 exact ⟨rfl, Drawn0.refl _⟩
set_option maxHeartbeats 800000 in
theorem lex_run.inner_ (s : ByteArray) (w : World) (hs : s.size ≤ 4611686018427387904) :
  Calls Try.prog 82 #[.string s, .func (.func 83) #[] #[]] w fun e w' => e = .returned (.int .i64 (LexSpec.run LexSpec.inner (bytesOf s))) ∧ Drawn0 w w' := by
 go_enter Try.func82, Try.ntmps82
 go_wp2
 go_loopw [5] (fun i w' => ∃ n : Nat, n ≤ s.size ∧ i = .int .i64 n ∧ Aside0 (∀ j, j < n → LexSpec.inner ((bytesOf s).getD j 0) = true) ∧ Drawn0 w w') (fun i _ => s.size - (intOf i).toNat)
 case atStart => exact ⟨0, by omega, rfl, ⟨fun j hj => absurd hj (by omega)⟩, Drawn0.refl _⟩
 case round =>
  obtain ⟨n, hn, rfl, HA, ⟨m, rfl⟩⟩ := hrel
  by_cases hlt : n < s.size
  ·have e0 : (bytesOf s).getD n 0 = ((s[n]'hlt).toNat : Int) := bytesOf_getD s n hlt
   cases hb : LexSpec.inner ((s[n]'hlt).toNat : Int)
   ·have HB := Aside0.mk hb
    have HE := Aside0.mk e0
    clear hb e0
    go_wp2_with (first | (go_at_call 83; refine (lex_inner.is _ _).mono ?_; rintro e w' ⟨rfl, ⟨nd, rfl⟩⟩; rw [HB.out]))
    go_ret
    refine ⟨?_, by repeat (first | exact Drawn0.refl _ | apply Drawn0.step)⟩
    rw [LexSpec.run_eq _ _ n HA.out (by rw [bytesOf_length]; exact hn) (fun _ => by rw [HE.out]; exact HB.out)]; rfl
   ·have HB := Aside0.mk hb
    have HE := Aside0.mk e0
    clear hb e0
    go_wp2_with (first | (go_at_call 83; refine (lex_inner.is _ _).mono ?_; rintro e w' ⟨rfl, ⟨nd, rfl⟩⟩; rw [HB.out]))
    go_roundw
    case rel => exact ⟨n + 1, hlt, by go_num, ⟨fun j hj => by
     by_cases hjn : j = n
     ·subst hjn; rw [HE.out]; exact HB.out
     ·exact HA.out j (by omega)⟩, by repeat (first | exact Drawn0.refl _ | apply Drawn0.step)⟩
    case measure => simp [intOf]; omega
  ·obtain rfl : n = s.size := by omega
   go_wp2_with fail
   go_ret
   refine ⟨?_, by repeat (first | exact Drawn0.refl _ | apply Drawn0.step)⟩
   rw [LexSpec.run_eq _ _ s.size HA.out (by rw [bytesOf_length]; exact Nat.le_refl _) (fun h => by rw [bytesOf_length] at h; omega)]; rfl
set_option maxHeartbeats 800000 in
theorem lex_run.inside_ (s : ByteArray) (w : World) (hs : s.size ≤ 4611686018427387904) :
  Calls Try.prog 82 #[.string s, .func (.func 84) #[] #[]] w fun e w' => e = .returned (.int .i64 (LexSpec.run LexSpec.inside (bytesOf s))) ∧ Drawn0 w w' := by
 go_enter Try.func82, Try.ntmps82
 go_wp2
 go_loopw [5] (fun i w' => ∃ n : Nat, n ≤ s.size ∧ i = .int .i64 n ∧ Aside0 (∀ j, j < n → LexSpec.inside ((bytesOf s).getD j 0) = true) ∧ Drawn0 w w') (fun i _ => s.size - (intOf i).toNat)
 case atStart => exact ⟨0, by omega, rfl, ⟨fun j hj => absurd hj (by omega)⟩, Drawn0.refl _⟩
 case round =>
  obtain ⟨n, hn, rfl, HA, ⟨m, rfl⟩⟩ := hrel
  by_cases hlt : n < s.size
  ·have e0 : (bytesOf s).getD n 0 = ((s[n]'hlt).toNat : Int) := bytesOf_getD s n hlt
   cases hb : LexSpec.inside ((s[n]'hlt).toNat : Int)
   ·have HB := Aside0.mk hb
    have HE := Aside0.mk e0
    clear hb e0
    go_wp2_with (first | (go_at_call 84; refine (lex_inside.is _ _).mono ?_; rintro e w' ⟨rfl, ⟨nd, rfl⟩⟩; rw [HB.out]))
    go_ret
    refine ⟨?_, by repeat (first | exact Drawn0.refl _ | apply Drawn0.step)⟩
    rw [LexSpec.run_eq _ _ n HA.out (by rw [bytesOf_length]; exact hn) (fun _ => by rw [HE.out]; exact HB.out)]; rfl
   ·have HB := Aside0.mk hb
    have HE := Aside0.mk e0
    clear hb e0
    go_wp2_with (first | (go_at_call 84; refine (lex_inside.is _ _).mono ?_; rintro e w' ⟨rfl, ⟨nd, rfl⟩⟩; rw [HB.out]))
    go_roundw
    case rel => exact ⟨n + 1, hlt, by go_num, ⟨fun j hj => by
     by_cases hjn : j = n
     ·subst hjn; rw [HE.out]; exact HB.out
     ·exact HA.out j (by omega)⟩, by repeat (first | exact Drawn0.refl _ | apply Drawn0.step)⟩
    case measure => simp [intOf]; omega
  ·obtain rfl : n = s.size := by omega
   go_wp2_with fail
   go_ret
   refine ⟨?_, by repeat (first | exact Drawn0.refl _ | apply Drawn0.step)⟩
   rw [LexSpec.run_eq _ _ s.size HA.out (by rw [bytesOf_length]; exact Nat.le_refl _) (fun h => by rw [bytesOf_length] at h; omega)]; rfl
set_option maxHeartbeats 800000 in
theorem lex_run.noNl_ (s : ByteArray) (w : World) (hs : s.size ≤ 4611686018427387904) :
  Calls Try.prog 82 #[.string s, .func (.func 88) #[] #[]] w fun e w' => e = .returned (.int .i64 (LexSpec.run LexSpec.noNl (bytesOf s))) ∧ Drawn0 w w' := by
 go_enter Try.func82, Try.ntmps82
 go_wp2
 go_loopw [5] (fun i w' => ∃ n : Nat, n ≤ s.size ∧ i = .int .i64 n ∧ Aside0 (∀ j, j < n → LexSpec.noNl ((bytesOf s).getD j 0) = true) ∧ Drawn0 w w') (fun i _ => s.size - (intOf i).toNat)
 case atStart => exact ⟨0, by omega, rfl, ⟨fun j hj => absurd hj (by omega)⟩, Drawn0.refl _⟩
 case round =>
  obtain ⟨n, hn, rfl, HA, ⟨m, rfl⟩⟩ := hrel
  by_cases hlt : n < s.size
  ·have e0 : (bytesOf s).getD n 0 = ((s[n]'hlt).toNat : Int) := bytesOf_getD s n hlt
   cases hb : LexSpec.noNl ((s[n]'hlt).toNat : Int)
   ·have HB := Aside0.mk hb
    have HE := Aside0.mk e0
    clear hb e0
    go_wp2_with (first | (go_at_call 88; refine (lex_noNl.is _ _).mono ?_; rintro e w' ⟨rfl, ⟨nd, rfl⟩⟩; rw [HB.out]))
    go_ret
    refine ⟨?_, by repeat (first | exact Drawn0.refl _ | apply Drawn0.step)⟩
    rw [LexSpec.run_eq _ _ n HA.out (by rw [bytesOf_length]; exact hn) (fun _ => by rw [HE.out]; exact HB.out)]; rfl
   ·have HB := Aside0.mk hb
    have HE := Aside0.mk e0
    clear hb e0
    go_wp2_with (first | (go_at_call 88; refine (lex_noNl.is _ _).mono ?_; rintro e w' ⟨rfl, ⟨nd, rfl⟩⟩; rw [HB.out]))
    go_roundw
    case rel => exact ⟨n + 1, hlt, by go_num, ⟨fun j hj => by
     by_cases hjn : j = n
     ·subst hjn; rw [HE.out]; exact HB.out
     ·exact HA.out j (by omega)⟩, by repeat (first | exact Drawn0.refl _ | apply Drawn0.step)⟩
    case measure => simp [intOf]; omega
  ·obtain rfl : n = s.size := by omega
   go_wp2_with fail
   go_ret
   refine ⟨?_, by repeat (first | exact Drawn0.refl _ | apply Drawn0.step)⟩
   rw [LexSpec.run_eq _ _ s.size HA.out (by rw [bytesOf_length]; exact Nat.le_refl _) (fun h => by rw [bytesOf_length] at h; omega)]; rfl
end Go.Proofs.Ytfjfbapiheehaaa.P
end
section
namespace Go.Proofs.Ytfjfbapiheehaaa.P
open Go.RowKit Go.Proofs.YtfjfbapiheehaaaW.PrintWords Go.Proofs.YtfjfbapiheehaaaW.PrintLast Go.Proofs.YtfjfbapiheehaaaW.PrintMore
attribute [local go_sem] max2_int min2_int max_two min_two max_three min_three max_four min_four   -- for this text's walks alone
set_option linter.unusedVariables false
set_option linter.unusedSimpArgs false
open Go.Proofs.Ytfjfbapiheehaaa.Base
def lex_IsName.f (a0 : ByteArray) : Option Bool := if a0.size ≤ 4611686018427387904 then some (LexSpec.isName (bytesOf a0)) else none
theorem lex_IsName.of (a0 : ByteArray) (h : a0.size ≤ 4611686018427387904) : lex_IsName.f a0 = some (LexSpec.isName (bytesOf a0)) := by unfold lex_IsName.f; rw [if_pos h]
set_option maxHeartbeats 800000 in
theorem lex_IsName.calls (a0 : ByteArray) (r : Bool) (w : World) (h : lex_IsName.f a0 = some r) :
  Calls Try.prog 60 #[.string a0] w fun e w' => e = .returned (.bool r) ∧ Drawn0 w w' := by
 unfold lex_IsName.f at h
 by_cases hs : a0.size ≤ 4611686018427387904
 ·rw [if_pos hs] at h
  have h := Option.some.inj h
  unfold LexSpec.isName at h
  rw [bytesOf_length] at h
  by_cases h0 : a0.size = 0
  ·have hr : r = false := by rw [← h]; simp [h0]
   subst hr
   clear h
   have k0 : decide ((1 : Int) ≤ (a0.size : Int)) = false := decide_eq_false (by omega)
   have k1 : decide (1 ≤ a0.size) = false := decide_eq_false (by omega)
   clear h0
   go_enter Try.func60, Try.ntmps60
   go_wp2
   go_ret
   exact ⟨rfl, Drawn0.refl _⟩
  ·have k0 : decide ((1 : Int) ≤ (a0.size : Int)) = true := decide_eq_true (by omega)
   have k1 : decide (1 ≤ a0.size) = true := decide_eq_true (by omega)
   by_cases h16 : a0.size ≤ 16
   ·have k2 : decide ((a0.size : Int) ≤ 16) = true := decide_eq_true (by omega)
    have k3 : decide (a0.size ≤ 16) = true := decide_eq_true (by omega)
    have hlt : 0 < a0.size := by omega
    have e0 : (bytesOf a0).getD 0 0 = ((a0[0]'hlt).toNat : Int) := bytesOf_getD a0 0 hlt
    rw [k1, k3, e0] at h
    simp only [Bool.true_and] at h
    cases hb : LexSpec.letter ((a0[0]'hlt).toNat : Int)
    ·rw [hb] at h
     simp only [Bool.false_and] at h
     subst h
     have HB := Aside0.mk hb
     clear hb e0 h0
     go_enter Try.func60, Try.ntmps60
     go_wp2_with (first | (go_at_call 81; refine (lex_letter.is _ _).mono ?_; rintro e w' ⟨rfl, ⟨nd, rfl⟩⟩; rw [HB.out]))
     go_ret
     exact ⟨rfl, by repeat (first | exact Drawn0.refl _ | apply Drawn0.step)⟩
    ·rw [hb] at h
     simp only [Bool.true_and] at h
     have HB := Aside0.mk hb
     have HR := Aside0.mk h
     clear hb e0 h0 h
     go_enter Try.func60, Try.ntmps60
     go_wp2_with (first | (go_at_call 81; refine (lex_letter.is _ _).mono ?_; rintro e w' ⟨rfl, ⟨nd, rfl⟩⟩; rw [HB.out]) | (go_at_call 82; refine (lex_run.inner_ _ _ hs).mono ?_; rintro e w' ⟨rfl, ⟨nd2, rfl⟩⟩))
     go_ret
     refine ⟨?_, by repeat (first | exact Drawn0.refl _ | apply Drawn0.step)⟩
     rw [← HR.out]; exact ret_bool (beq_cast _ _)
   ·have k2 : decide ((a0.size : Int) ≤ 16) = false := decide_eq_false (by omega)
    have k3 : decide (a0.size ≤ 16) = false := decide_eq_false (by omega)
    rw [k1, k3] at h
    simp only [Bool.true_and, Bool.false_and] at h
    subst h
    clear h0 h16
    go_enter Try.func60, Try.ntmps60
    go_wp2
    go_ret
    exact ⟨rfl, Drawn0.refl _⟩
 ·rw [if_neg hs] at h; cases h
end Go.Proofs.Ytfjfbapiheehaaa.P
end
section
namespace Go.Proofs.Ytfjfbapiheehaaa.P
open Go.RowKit Go.Proofs.YtfjfbapiheehaaaW.PrintWords Go.Proofs.YtfjfbapiheehaaaW.PrintLast Go.Proofs.YtfjfbapiheehaaaW.PrintMore
attribute [local go_sem] max2_int min2_int max_two min_two max_three min_three max_four min_four   -- for this text's walks alone
set_option linter.unusedVariables false
set_option linter.unusedSimpArgs false
open Go.Proofs.Ytfjfbapiheehaaa.Base
def lex_IsTerm.f (a0 : ByteArray) : Option Bool := if a0.size ≤ 4611686018427387904 then some (LexSpec.isTerm (bytesOf a0)) else none
theorem lex_IsTerm.of (a0 : ByteArray) (h : a0.size ≤ 4611686018427387904) : lex_IsTerm.f a0 = some (LexSpec.isTerm (bytesOf a0)) := by unfold lex_IsTerm.f; rw [if_pos h]
set_option maxHeartbeats 800000 in
theorem lex_IsTerm.calls (a0 : ByteArray) (r : Bool) (w : World) (h : lex_IsTerm.f a0 = some r) :
  Calls Try.prog 61 #[.string a0] w fun e w' => e = .returned (.bool r) ∧ Drawn0 w w' := by
 unfold lex_IsTerm.f at h
 by_cases hs : a0.size ≤ 4611686018427387904
 ·rw [if_pos hs] at h
  have h := Option.some.inj h
  unfold LexSpec.isTerm at h
  rw [bytesOf_length] at h
  by_cases h0 : a0.size = 0
  ·have hr : r = false := by rw [← h]; simp [h0]
   subst hr
   clear h
   have k0 : decide ((1 : Int) ≤ (a0.size : Int)) = false := decide_eq_false (by omega)
   have k1 : decide (1 ≤ a0.size) = false := decide_eq_false (by omega)
   clear h0
   go_enter Try.func61, Try.ntmps61
   go_wp2
   go_ret
   exact ⟨rfl, Drawn0.refl _⟩
  ·have k0 : decide ((1 : Int) ≤ (a0.size : Int)) = true := decide_eq_true (by omega)
   have k1 : decide (1 ≤ a0.size) = true := decide_eq_true (by omega)
   by_cases h16 : a0.size ≤ 16
   ·have k2 : decide ((a0.size : Int) ≤ 16) = true := decide_eq_true (by omega)
    have k3 : decide (a0.size ≤ 16) = true := decide_eq_true (by omega)
    rw [k1, k3] at h
    simp only [Bool.true_and] at h
    have HR := Aside0.mk h
    clear h0 h
    go_enter Try.func61, Try.ntmps61
    go_wp2_with (first | (go_at_call 82; refine (lex_run.inside_ _ _ hs).mono ?_; rintro e w' ⟨rfl, ⟨nd2, rfl⟩⟩))
    go_ret
    refine ⟨?_, by repeat (first | exact Drawn0.refl _ | apply Drawn0.step)⟩
    rw [← HR.out]; exact ret_bool (beq_cast _ _)
   ·have k2 : decide ((a0.size : Int) ≤ 16) = false := decide_eq_false (by omega)
    have k3 : decide (a0.size ≤ 16) = false := decide_eq_false (by omega)
    rw [k1, k3] at h
    simp only [Bool.true_and, Bool.false_and] at h
    subst h
    clear h0 h16
    go_enter Try.func61, Try.ntmps61
    go_wp2
    go_ret
    exact ⟨rfl, Drawn0.refl _⟩
 ·rw [if_neg hs] at h; cases h
end Go.Proofs.Ytfjfbapiheehaaa.P
end
section
set_option linter.unusedVariables false
set_option linter.unusedSimpArgs false
namespace Go.Proofs.Ytfjfbapiheehaaa.V
open Go Go.RowKit Go.Proofs.Ytfjfbapiheehaaa.P Go.Proofs.YtfjfbapiheehaaaW.PrintWords Go.Proofs.YtfjfbapiheehaaaW.PrintLast Go.Proofs.Ytfjfbapiheehaaa.Base
theorem bt_get (s : ByteArray) (i : Nat) : bt s (i : Int) = (bytesOf s).getD i 0 := by
 rw [← rd_bytesOf]; rfl
theorem wrap_nat (i : Nat) (h : i ≤ 4000000) : wrap64 ((i : Int) + 1) = ((i + 1 : Nat) : Int) := by unfold wrap64; omega
theorem letter_is (c : Int) : topiaristref01_letter.f c = some (LexSpec.letter c) := by
 unfold topiaristref01_letter.f LexSpec.letter
 by_cases h1 : c ≥ 97 <;> by_cases h2 : c ≤ 122 <;> by_cases h3 : c ≥ 65 <;> by_cases h4 : c ≤ 90 <;> simp [*] <;> omega
theorem more_is (c : Int) : topiaristref01_more.f c = some (LexSpec.inner c) := by
 unfold topiaristref01_more.f LexSpec.inner
 rw [letter_is]
 cases LexSpec.letter c <;> by_cases h5 : c ≥ 48 <;> by_cases h6 : c ≤ 57 <;> simp [*] <;> omega
theorem name_loop (s : ByteArray) (hs : s.size ≤ 4000) (d : Nat) : ∀ (k i : Nat), i ≤ s.size → s.size - i = d → d < k → (∀ j, j < i → LexSpec.inner ((bytesOf s).getD j 0) = true) →
  topiaristref01_IsName.l0 k s (i : Int) = some (LexSpec.isName (bytesOf s)) := by
 induction d with
 | zero =>
  intro k i hi hd hk hj
  obtain ⟨k, rfl⟩ : ∃ m, k = m + 1 := ⟨k - 1, by omega⟩
  have hr : LexSpec.run LexSpec.inner (bytesOf s) = s.size := LexSpec.run_eq _ _ _ (fun j h => hj j (by omega)) (by rw [bytesOf_length]; omega) (fun h => by rw [bytesOf_length] at h; omega)
  simp only [topiaristref01_IsName.l0]
  rw [if_neg (by omega)]
  unfold LexSpec.isName
  rw [bytesOf_length, hr]
  by_cases h1 : 1 ≤ s.size
  ·rw [if_pos (by omega), decide_eq_true h1]
   by_cases h2 : s.size ≤ 16
   ·rw [if_pos (by omega), if_pos (by omega), decide_eq_true h2]
    have := bt_get s 0
    rw [show ((0 : Nat) : Int) = 0 from rfl] at this
    rw [letter_is, this]
    simp
   ·rw [if_neg (by omega), decide_eq_false h2]; simp
  ·rw [if_neg (by omega), decide_eq_false h1]; simp
 | succ d ih =>
  intro k i hi hd hk hj
  obtain ⟨k, rfl⟩ : ∃ m, k = m + 1 := ⟨k - 1, by omega⟩
  simp only [topiaristref01_IsName.l0]
  rw [if_pos (by omega), if_pos (by omega), more_is, bt_get, wrap_nat i (by omega)]
  simp only [Option.bind_some]
  cases hc : LexSpec.inner ((bytesOf s).getD i 0)
  ·have hr : LexSpec.run LexSpec.inner (bytesOf s) = i := LexSpec.run_eq _ _ _ hj (by rw [bytesOf_length]; omega) (fun _ => hc)
   rw [if_neg (by simp)]
   unfold LexSpec.isName
   rw [hr, bytesOf_length, show (i == s.size) = false from by simp; omega]
   simp
  ·rw [if_pos rfl]
   refine ih k (i + 1) (by omega) (by omega) (by omega) (fun j h => ?_)
   by_cases hji : j = i
   ·subst hji; exact hc
   ·exact hj j (by omega)
theorem name_is (s : ByteArray) (hs : s.size ≤ 4000) (k : Nat) (hk : s.size < k) : topiaristref01_IsName.f k s = some (LexSpec.isName (bytesOf s)) :=
 name_loop s hs s.size k 0 (by omega) (by omega) hk (fun j h => by omega)
theorem inside_of (c : Int) : LexSpec.inside c = (!(decide (c < 32)) && (!(decide (c > 126)) && !(decide (c = 39)))) := by
 unfold LexSpec.inside
 by_cases h1 : c < 32 <;> by_cases h2 : c > 126 <;> by_cases h3 : c = 39 <;> simp [h1, h2, h3] <;> omega
theorem term_loop (s : ByteArray) (hs : s.size ≤ 4000) (d : Nat) : ∀ (k i : Nat), i ≤ s.size → s.size - i = d → d < k → (∀ j, j < i → LexSpec.inside ((bytesOf s).getD j 0) = true) →
  topiaristref01_IsTerm.l0 k s (i : Int) = some (LexSpec.isTerm (bytesOf s)) := by
 induction d with
 | zero =>
  intro k i hi hd hk hj
  obtain ⟨k, rfl⟩ : ∃ m, k = m + 1 := ⟨k - 1, by omega⟩
  have hr : LexSpec.run LexSpec.inside (bytesOf s) = s.size := LexSpec.run_eq _ _ _ (fun j h => hj j (by omega)) (by rw [bytesOf_length]; omega) (fun h => by rw [bytesOf_length] at h; omega)
  simp only [topiaristref01_IsTerm.l0]
  rw [if_neg (by omega)]
  unfold LexSpec.isTerm
  rw [bytesOf_length, hr]
  by_cases h1 : 1 ≤ s.size
  ·rw [if_pos (by omega), decide_eq_true h1]; simp; omega
  ·rw [if_neg (by omega), decide_eq_false h1]; simp
 | succ d ih =>
  intro k i hi hd hk hj
  obtain ⟨k, rfl⟩ : ∃ m, k = m + 1 := ⟨k - 1, by omega⟩
  simp only [topiaristref01_IsTerm.l0]
  rw [if_pos (by omega), if_pos (by omega), bt_get, wrap_nat i (by omega)]
  cases hc : LexSpec.inside ((bytesOf s).getD i 0)
  ·have hr : LexSpec.run LexSpec.inside (bytesOf s) = i := LexSpec.run_eq _ _ _ hj (by rw [bytesOf_length]; omega) (fun _ => hc)
   have hf : LexSpec.isTerm (bytesOf s) = false := by
    unfold LexSpec.isTerm
    rw [hr, bytesOf_length, show (i == s.size) = false from by simp; omega]
    simp
   rw [hf]
   rw [inside_of] at hc
   by_cases h1 : (bytesOf s).getD i 0 < 32
   ·rw [if_pos h1]
   ·rw [if_neg h1]
    by_cases h2 : (bytesOf s).getD i 0 > 126
    ·rw [if_pos h2]
    ·rw [if_neg h2]
     by_cases h3 : (bytesOf s).getD i 0 = 39
     ·rw [if_pos h3]
     ·rw [decide_eq_false h1, decide_eq_false h2, decide_eq_false h3] at hc; cases hc
  ·have hc' := hc
   rw [inside_of] at hc'
   simp only [Bool.and_eq_true, Bool.not_eq_true', decide_eq_false_iff_not] at hc'
   rw [if_neg hc'.1, if_neg hc'.2.1, if_neg hc'.2.2]
   refine ih k (i + 1) (by omega) (by omega) (by omega) (fun j h => ?_)
   by_cases hji : j = i
   ·subst hji; exact hc
   ·exact hj j (by omega)
theorem term_is (s : ByteArray) (hs : s.size ≤ 4000) (k : Nat) (hk : s.size < k) : topiaristref01_IsTerm.f k s = some (LexSpec.isTerm (bytesOf s)) :=
 term_loop s hs s.size k 0 (by omega) (by omega) hk (fun j h => by omega)
def isName (s : ByteArray) : Bool := LexSpec.isName (bytesOf s)
def isTerm (s : ByteArray) : Bool := LexSpec.isTerm (bytesOf s)
theorem str_arg {R : Addr → Value → Prop} {gv : Nat → Option Value} {ms : Array Value} {s : ByteArray} (h2 : ms.size = [V.val (.string s)].length) (h3 : ∀ (i : Nat) (v : V) (m : Value), [V.val (.string s)][i]? = some v → ms[i]? = some m → VRep R gv 0 v m) : ms = #[.string s] := by
 have h0 : 0 < ms.size := by rw [h2]; simp
 have h : ms[0]? = some (ms[0]'h0) := Array.getElem?_eq_getElem h0
 have := VRep.val_inv (h3 0 _ _ rfl h)
 apply Array.ext_getElem?
 intro i
 cases i with
 | zero => rw [h, this]; rfl
 | succ i => rw [Array.getElem?_eq_none (by rw [h2]; simp), Array.getElem?_eq_none (by simp)]
theorem rname_v (s : ByteArray) (hs : s.size ≤ 4000) : VCalls Try.prog 43 [.val (.string s)] [] 0 (Gives (.val (.bool (isName s)))) := VCalls.printed rfl (fun R gv w ms _ h2 h3 => by
 rw [str_arg h2 h3]
 exact (topiaristref01_IsName.calls 5000 s _ w (name_is s hs 5000 (by omega))).mono (fun e w' h => ⟨h.1, h.2.below⟩))
theorem rterm_v (s : ByteArray) (hs : s.size ≤ 4000) : VCalls Try.prog 45 [.val (.string s)] [] 0 (Gives (.val (.bool (isTerm s)))) := VCalls.printed rfl (fun R gv w ms _ h2 h3 => by
 rw [str_arg h2 h3]
 exact (topiaristref01_IsTerm.calls 5000 s _ w (term_is s hs 5000 (by omega))).mono (fun e w' h => ⟨h.1, h.2.below⟩))
theorem name_v (s : ByteArray) (hs : s.size ≤ 4000) : VCalls Try.prog 60 [.val (.string s)] [] 0 (Gives (.val (.bool (isName s)))) := VCalls.printed rfl (fun R gv w ms _ h2 h3 => by
 rw [str_arg h2 h3]
 exact (lex_IsName.calls s _ w (lex_IsName.of s (by omega))).mono (fun e w' h => ⟨h.1, h.2.below⟩))
theorem term_v (s : ByteArray) (hs : s.size ≤ 4000) : VCalls Try.prog 61 [.val (.string s)] [] 0 (Gives (.val (.bool (isTerm s)))) := VCalls.printed rfl (fun R gv w ms _ h2 h3 => by
 rw [str_arg h2 h3]
 exact (lex_IsTerm.calls s _ w (lex_IsTerm.of s (by omega))).mono (fun e w' h => ⟨h.1, h.2.below⟩))
end Go.Proofs.Ytfjfbapiheehaaa.V
end
