/- What bytes's deferred functions do: with nothing thrown; with an error thrown. -/
import Derived.Test.YtncgbkmhigdflaaBase
import Derived.Test.YtncgbkmhigdflaaProg
import Derived.Test.YtncgbkmhigdflaaWLast
import Derived.WalkLawsBesides
import Derived.Recover
import Derived.Defers
import Derived.RegionTactic
import Derived.Deep.RegionWith
set_option linter.unusedVariables false
set_option linter.unusedSimpArgs false
namespace Go.Proofs.Ytncgbkmhigdflaa.Caught
open Go Go.RowKit Go.Proofs.YtncgbkmhigdflaaW.PrintWords Go.Proofs.YtncgbkmhigdflaaW.PrintLast Go.Proofs.Ytncgbkmhigdflaa.Base
theorem assert_wrong (x : Value) (w : World) : (Instr.typeAssert (.iface 56 x) 20 56 true).run Try.prog w = .ok (.tuple #[x, .bool true]) w := by kernel_rfl
theorem eq_nil_nil (w : World) : (binOp .eql 20 .nilIface .nilIface).run Try.prog w = .ok (.bool true) w := by kernel_rfl
theorem eq_wrong_nil (x : Value) (w : World) : (binOp .eql 20 (.iface 56 x) .nilIface).run Try.prog w = .ok (.bool false) w := by kernel_rfl
theorem caught_nil (w : World) : Calls Try.prog 25 #[.nilIface] w fun e w' => e = .returned (.int .i64 0) ∧ Drawn0 w w' := by
  have he := fun W => eq_nil_nil W
  go_enter Try.func25, Try.ntmps25
  go_wp2
  go_ret
  exact ⟨rfl, by repeat (first | exact Drawn0.refl _ | apply Drawn0.step)⟩
set_option maxHeartbeats 1600000 in
theorem caught_wrong (n : Int) (w : World) : Calls Try.prog 25 #[.iface 56 (.agg #[.int .i64 n])] w fun e w' => e = .returned (.int .i64 n) ∧ Below w.heap.size w w' := by
  have he := fun W => eq_wrong_nil (.agg #[.int .i64 n]) W
  have hta := fun W => assert_wrong (.agg #[.int .i64 n]) W
  go_enter Try.func25, Try.ntmps25
  go_wp2
  go_ret
  exact ⟨rfl, by repeat (first | exact Below.refl _ _ | apply below_alloc | apply pw_below_drewN | apply below_drew1 | refine below_set ?_ (Nat.le_refl _))⟩
/-- The end of a piece of code: it goes on. -/
def Goes (R : Act → World → Prop) : Exit → Act → World → Prop
  | .normal, a, w => R a w
  | _, _, _ => False
theorem ReadNum1_idle (g0 g1 g2 : Nat) (w : World) :
    CallsD Try.prog 24 #[.pointer (some ⟨g0, 0, none⟩), .pointer (some ⟨g1, 0, none⟩), .pointer (some ⟨g2, 0, none⟩)] .returning w fun e u' w' => e = .returned (.tuple #[]) ∧ u' = .returning ∧ Drawn0 w w' := by
  refine callsD_of_wpS Try.func24 rfl fun c₀ cs hu => ?_
  apply wpS_seq
  apply wpS_region
  simp [wpOpsS, go_sem, recoverD, hu, Try.ntmps24, Exit.thenS]
  refine (caught_nil _).mono ?_
  rintro e w1 ⟨rfl, ⟨m, rfl⟩⟩
  simp [wpOpsS, go_sem, recoverD, hu, Try.ntmps24, Exit.thenS]
  apply wpS_seq
  apply wpS_region
  simp [wpOpsS, go_sem, Exit.thenS]
  refine wpS_cond (t := false) (by simp [Act.eval, Array.replicate]) ?_
  simp only [Bool.false_eq_true, if_false]
  refine wpS_of_wp (wp_skip ?_)
  cases c₀
  simp_all [bodyPostS, results, Try.results24]
  first | exact Drawn0.refl _ | exact Drawn0.step (Drawn0.refl _) | exact ⟨_, rfl⟩
def ReadNum1End (g0 g1 g2 : Nat) (n : Int) (w0 w' : World) : Prop := w'.heap[g0]? = some (.cells #[.int .i64 0] 3 (0, 0)) ∧ w'.heap[g1]? = some (.cells #[.int .i64 0] 3 (0, 0)) ∧ w'.heap[g2]? = some (.cells #[.int .i64 n] 24 (0, 0)) ∧ Below w0.heap.size w0 w'
set_option maxHeartbeats 1000000 in
theorem ReadNum1_caught (g0 g1 g2 : Nat) (n : Int) (hn0 : n ≠ 0) (u0 u1 u2 : Value) (older : List PanicEntry) (w0 w : World) (b0 : w.heap[g0]? = some (.cells #[u0] 3 (0, 0))) (b1 : w.heap[g1]? = some (.cells #[u1] 3 (0, 0))) (b2 : w.heap[g2]? = some (.cells #[u2] 24 (0, 0))) (l0 : w0.heap.size ≤ g0) (l1 : w0.heap.size ≤ g1) (l2 : w0.heap.size ≤ g2) (n01 : g0 ≠ g1) (n02 : g0 ≠ g2) (n12 : g1 ≠ g2) (HB : Below w0.heap.size w0 w) :
    CallsD Try.prog 24 #[.pointer (some ⟨g0, 0, none⟩), .pointer (some ⟨g1, 0, none⟩), .pointer (some ⟨g2, 0, none⟩)] (.panicking ({ v := .iface 56 (.agg #[.int .i64 n]), recovered := false } :: older)) w fun e u' w' =>
      e = .returned (.tuple #[]) ∧ u' = .panicking ({ v := .iface 56 (.agg #[.int .i64 n]), recovered := true } :: older) ∧ ReadNum1End g0 g1 g2 n w0 w' := by
  refine callsD_of_wpS Try.func24 rfl fun c₀ cs hu => ?_
  apply wpS_seq
  apply wpS_region
  simp [wpOpsS, go_sem, recoverD, hu, Try.ntmps24, Exit.thenS]
  refine (caught_wrong n _).mono ?_
  rintro e w1 ⟨rfl, hb⟩
  simp [wpOpsS, go_sem, recoverD, hu, Try.ntmps24, Exit.thenS]
  have B0 := Aside0.mk (blk_below b0 hb)
  have B1 := Aside0.mk (blk_below b1 hb)
  have B2 := Aside0.mk (blk_below b2 hb)
  have HB1 := Aside0.mk (below_step HB hb)
  have c0 : w1.cell? ⟨g0, 0, none⟩ = some u0 := (blk_cell B0.out 0).trans rfl
  have f0 := blk_frozen B0.out 0
  have ll0 := blk_lt B0.out
  have c1 : w1.cell? ⟨g1, 0, none⟩ = some u1 := (blk_cell B1.out 0).trans rfl
  have f1 := blk_frozen B1.out 0
  have ll1 := blk_lt B1.out
  have c2 : w1.cell? ⟨g2, 0, none⟩ = some u2 := (blk_cell B2.out 0).trans rfl
  have f2 := blk_frozen B2.out 0
  have ll2 := blk_lt B2.out
  have m10 := Ne.symm n01
  have m20 := Ne.symm n02
  have m21 := Ne.symm n12
  clear b0 b1 b2 hb
  have hd : decide (n = 0) = false := decide_eq_false hn0
  have hd2 : (n == 0) = false := by simp [hn0]
  have hd3 : (n != 0) = true := by simp [hn0]
  refine wpS_of_wp (wp_mono (Q := Goes fun a' w' => a'.defers = [] ∧ ReadNum1End g0 g1 g2 n w0 w') ?_ ?_)
  · clear hu
    go_wp2
    all_goals
      refine ⟨rfl, ?_, ?_, ?_, ?_⟩
      · with_reducible repeat (first | exact B0.out | (refine blk_drew ?_) | (refine blk_drewN ?_ _) | (refine blk_alloc ?_ _))
        refine blk_far ?_ n02 _
        refine blk_far ?_ n01 _
        refine blk_put (cs := #[u0]) ?_ 0 _ rfl
        with_reducible repeat (first | exact B0.out | (refine blk_drew ?_) | (refine blk_drewN ?_ _) | (refine blk_alloc ?_ _))
      · with_reducible repeat (first | exact B1.out | (refine blk_drew ?_) | (refine blk_drewN ?_ _) | (refine blk_alloc ?_ _))
        refine blk_far ?_ n12 _
        refine blk_put (cs := #[u1]) ?_ 0 _ rfl
        refine blk_far ?_ m10 _
        with_reducible repeat (first | exact B1.out | (refine blk_drew ?_) | (refine blk_drewN ?_ _) | (refine blk_alloc ?_ _))
      · with_reducible repeat (first | exact B2.out | (refine blk_drew ?_) | (refine blk_drewN ?_ _) | (refine blk_alloc ?_ _))
        refine blk_put (cs := #[u2]) ?_ 0 _ rfl
        refine blk_far ?_ m21 _
        refine blk_far ?_ m20 _
        with_reducible repeat (first | exact B2.out | (refine blk_drew ?_) | (refine blk_drewN ?_ _) | (refine blk_alloc ?_ _))
      · with_reducible repeat (first | exact HB1.out | apply below_alloc | apply pw_below_drewN | apply below_drew1 | (refine below_set ?_ l0) | (refine below_set ?_ l1) | (refine below_set ?_ l2))
  · intro e a' w' h
    cases e <;> simp only [Goes] at h
    obtain ⟨hd, hc⟩ := h
    cases c₀
    simp_all [bodyPostS, results, Try.results24]
theorem ReadText1_idle (g0 g1 g2 : Nat) (w : World) :
    CallsD Try.prog 27 #[.pointer (some ⟨g0, 0, none⟩), .pointer (some ⟨g1, 0, none⟩), .pointer (some ⟨g2, 0, none⟩)] .returning w fun e u' w' => e = .returned (.tuple #[]) ∧ u' = .returning ∧ Drawn0 w w' := by
  refine callsD_of_wpS Try.func27 rfl fun c₀ cs hu => ?_
  apply wpS_seq
  apply wpS_region
  simp [wpOpsS, go_sem, recoverD, hu, Try.ntmps27, Exit.thenS]
  refine (caught_nil _).mono ?_
  rintro e w1 ⟨rfl, ⟨m, rfl⟩⟩
  simp [wpOpsS, go_sem, recoverD, hu, Try.ntmps27, Exit.thenS]
  apply wpS_seq
  apply wpS_region
  simp [wpOpsS, go_sem, Exit.thenS]
  refine wpS_cond (t := false) (by simp [Act.eval, Array.replicate]) ?_
  simp only [Bool.false_eq_true, if_false]
  refine wpS_of_wp (wp_skip ?_)
  cases c₀
  simp_all [bodyPostS, results, Try.results27]
  first | exact Drawn0.refl _ | exact Drawn0.step (Drawn0.refl _) | exact ⟨_, rfl⟩
def ReadText1End (g0 g1 g2 : Nat) (n : Int) (w0 w' : World) : Prop := w'.heap[g0]? = some (.cells #[.string ⟨#[]⟩] 9 (0, 0)) ∧ w'.heap[g1]? = some (.cells #[.int .i64 0] 3 (0, 0)) ∧ w'.heap[g2]? = some (.cells #[.int .i64 n] 24 (0, 0)) ∧ Below w0.heap.size w0 w'
set_option maxHeartbeats 1000000 in
theorem ReadText1_caught (g0 g1 g2 : Nat) (n : Int) (hn0 : n ≠ 0) (u0 u1 u2 : Value) (older : List PanicEntry) (w0 w : World) (b0 : w.heap[g0]? = some (.cells #[u0] 9 (0, 0))) (b1 : w.heap[g1]? = some (.cells #[u1] 3 (0, 0))) (b2 : w.heap[g2]? = some (.cells #[u2] 24 (0, 0))) (l0 : w0.heap.size ≤ g0) (l1 : w0.heap.size ≤ g1) (l2 : w0.heap.size ≤ g2) (n01 : g0 ≠ g1) (n02 : g0 ≠ g2) (n12 : g1 ≠ g2) (HB : Below w0.heap.size w0 w) :
    CallsD Try.prog 27 #[.pointer (some ⟨g0, 0, none⟩), .pointer (some ⟨g1, 0, none⟩), .pointer (some ⟨g2, 0, none⟩)] (.panicking ({ v := .iface 56 (.agg #[.int .i64 n]), recovered := false } :: older)) w fun e u' w' =>
      e = .returned (.tuple #[]) ∧ u' = .panicking ({ v := .iface 56 (.agg #[.int .i64 n]), recovered := true } :: older) ∧ ReadText1End g0 g1 g2 n w0 w' := by
  refine callsD_of_wpS Try.func27 rfl fun c₀ cs hu => ?_
  apply wpS_seq
  apply wpS_region
  simp [wpOpsS, go_sem, recoverD, hu, Try.ntmps27, Exit.thenS]
  refine (caught_wrong n _).mono ?_
  rintro e w1 ⟨rfl, hb⟩
  simp [wpOpsS, go_sem, recoverD, hu, Try.ntmps27, Exit.thenS]
  have B0 := Aside0.mk (blk_below b0 hb)
  have B1 := Aside0.mk (blk_below b1 hb)
  have B2 := Aside0.mk (blk_below b2 hb)
  have HB1 := Aside0.mk (below_step HB hb)
  have c0 : w1.cell? ⟨g0, 0, none⟩ = some u0 := (blk_cell B0.out 0).trans rfl
  have f0 := blk_frozen B0.out 0
  have ll0 := blk_lt B0.out
  have c1 : w1.cell? ⟨g1, 0, none⟩ = some u1 := (blk_cell B1.out 0).trans rfl
  have f1 := blk_frozen B1.out 0
  have ll1 := blk_lt B1.out
  have c2 : w1.cell? ⟨g2, 0, none⟩ = some u2 := (blk_cell B2.out 0).trans rfl
  have f2 := blk_frozen B2.out 0
  have ll2 := blk_lt B2.out
  have m10 := Ne.symm n01
  have m20 := Ne.symm n02
  have m21 := Ne.symm n12
  clear b0 b1 b2 hb
  have hd : decide (n = 0) = false := decide_eq_false hn0
  have hd2 : (n == 0) = false := by simp [hn0]
  have hd3 : (n != 0) = true := by simp [hn0]
  refine wpS_of_wp (wp_mono (Q := Goes fun a' w' => a'.defers = [] ∧ ReadText1End g0 g1 g2 n w0 w') ?_ ?_)
  · clear hu
    go_wp2
    all_goals
      refine ⟨rfl, ?_, ?_, ?_, ?_⟩
      · with_reducible repeat (first | exact B0.out | (refine blk_drew ?_) | (refine blk_drewN ?_ _) | (refine blk_alloc ?_ _))
        refine blk_far ?_ n02 _
        refine blk_far ?_ n01 _
        refine blk_put (cs := #[u0]) ?_ 0 _ rfl
        with_reducible repeat (first | exact B0.out | (refine blk_drew ?_) | (refine blk_drewN ?_ _) | (refine blk_alloc ?_ _))
      · with_reducible repeat (first | exact B1.out | (refine blk_drew ?_) | (refine blk_drewN ?_ _) | (refine blk_alloc ?_ _))
        refine blk_far ?_ n12 _
        refine blk_put (cs := #[u1]) ?_ 0 _ rfl
        refine blk_far ?_ m10 _
        with_reducible repeat (first | exact B1.out | (refine blk_drew ?_) | (refine blk_drewN ?_ _) | (refine blk_alloc ?_ _))
      · with_reducible repeat (first | exact B2.out | (refine blk_drew ?_) | (refine blk_drewN ?_ _) | (refine blk_alloc ?_ _))
        refine blk_put (cs := #[u2]) ?_ 0 _ rfl
        refine blk_far ?_ m21 _
        refine blk_far ?_ m20 _
        with_reducible repeat (first | exact B2.out | (refine blk_drew ?_) | (refine blk_drewN ?_ _) | (refine blk_alloc ?_ _))
      · with_reducible repeat (first | exact HB1.out | apply below_alloc | apply pw_below_drewN | apply below_drew1 | (refine below_set ?_ l0) | (refine below_set ?_ l1) | (refine below_set ?_ l2))
  · intro e a' w' h
    cases e <;> simp only [Goes] at h
    obtain ⟨hd, hc⟩ := h
    cases c₀
    simp_all [bodyPostS, results, Try.results27]
theorem Open1_idle (g0 g1 : Nat) (w : World) :
    CallsD Try.prog 28 #[.pointer (some ⟨g0, 0, none⟩), .pointer (some ⟨g1, 0, none⟩)] .returning w fun e u' w' => e = .returned (.tuple #[]) ∧ u' = .returning ∧ Drawn0 w w' := by
  refine callsD_of_wpS Try.func28 rfl fun c₀ cs hu => ?_
  apply wpS_seq
  apply wpS_region
  simp [wpOpsS, go_sem, recoverD, hu, Try.ntmps28, Exit.thenS]
  refine (caught_nil _).mono ?_
  rintro e w1 ⟨rfl, ⟨m, rfl⟩⟩
  simp [wpOpsS, go_sem, recoverD, hu, Try.ntmps28, Exit.thenS]
  apply wpS_seq
  apply wpS_region
  simp [wpOpsS, go_sem, Exit.thenS]
  refine wpS_cond (t := false) (by simp [Act.eval, Array.replicate]) ?_
  simp only [Bool.false_eq_true, if_false]
  refine wpS_of_wp (wp_skip ?_)
  cases c₀
  simp_all [bodyPostS, results, Try.results28]
  first | exact Drawn0.refl _ | exact Drawn0.step (Drawn0.refl _) | exact ⟨_, rfl⟩
def Open1End (g0 g1 : Nat) (n : Int) (w0 w' : World) : Prop := w'.heap[g0]? = some (.cells #[.slice none 0 0] 22 (0, 0)) ∧ w'.heap[g1]? = some (.cells #[.int .i64 n] 24 (0, 0)) ∧ Below w0.heap.size w0 w'
set_option maxHeartbeats 1000000 in
theorem Open1_caught (g0 g1 : Nat) (n : Int) (hn0 : n ≠ 0) (u0 u1 : Value) (older : List PanicEntry) (w0 w : World) (b0 : w.heap[g0]? = some (.cells #[u0] 22 (0, 0))) (b1 : w.heap[g1]? = some (.cells #[u1] 24 (0, 0))) (l0 : w0.heap.size ≤ g0) (l1 : w0.heap.size ≤ g1) (n01 : g0 ≠ g1) (HB : Below w0.heap.size w0 w) :
    CallsD Try.prog 28 #[.pointer (some ⟨g0, 0, none⟩), .pointer (some ⟨g1, 0, none⟩)] (.panicking ({ v := .iface 56 (.agg #[.int .i64 n]), recovered := false } :: older)) w fun e u' w' =>
      e = .returned (.tuple #[]) ∧ u' = .panicking ({ v := .iface 56 (.agg #[.int .i64 n]), recovered := true } :: older) ∧ Open1End g0 g1 n w0 w' := by
  refine callsD_of_wpS Try.func28 rfl fun c₀ cs hu => ?_
  apply wpS_seq
  apply wpS_region
  simp [wpOpsS, go_sem, recoverD, hu, Try.ntmps28, Exit.thenS]
  refine (caught_wrong n _).mono ?_
  rintro e w1 ⟨rfl, hb⟩
  simp [wpOpsS, go_sem, recoverD, hu, Try.ntmps28, Exit.thenS]
  have B0 := Aside0.mk (blk_below b0 hb)
  have B1 := Aside0.mk (blk_below b1 hb)
  have HB1 := Aside0.mk (below_step HB hb)
  have c0 : w1.cell? ⟨g0, 0, none⟩ = some u0 := (blk_cell B0.out 0).trans rfl
  have f0 := blk_frozen B0.out 0
  have ll0 := blk_lt B0.out
  have c1 : w1.cell? ⟨g1, 0, none⟩ = some u1 := (blk_cell B1.out 0).trans rfl
  have f1 := blk_frozen B1.out 0
  have ll1 := blk_lt B1.out
  have m10 := Ne.symm n01
  clear b0 b1 hb
  have hd : decide (n = 0) = false := decide_eq_false hn0
  have hd2 : (n == 0) = false := by simp [hn0]
  have hd3 : (n != 0) = true := by simp [hn0]
  refine wpS_of_wp (wp_mono (Q := Goes fun a' w' => a'.defers = [] ∧ Open1End g0 g1 n w0 w') ?_ ?_)
  · clear hu
    go_wp2
    all_goals
      refine ⟨rfl, ?_, ?_, ?_⟩
      · with_reducible repeat (first | exact B0.out | (refine blk_drew ?_) | (refine blk_drewN ?_ _) | (refine blk_alloc ?_ _))
        refine blk_far ?_ n01 _
        refine blk_put (cs := #[u0]) ?_ 0 _ rfl
        with_reducible repeat (first | exact B0.out | (refine blk_drew ?_) | (refine blk_drewN ?_ _) | (refine blk_alloc ?_ _))
      · with_reducible repeat (first | exact B1.out | (refine blk_drew ?_) | (refine blk_drewN ?_ _) | (refine blk_alloc ?_ _))
        refine blk_put (cs := #[u1]) ?_ 0 _ rfl
        refine blk_far ?_ m10 _
        with_reducible repeat (first | exact B1.out | (refine blk_drew ?_) | (refine blk_drewN ?_ _) | (refine blk_alloc ?_ _))
      · with_reducible repeat (first | exact HB1.out | apply below_alloc | apply pw_below_drewN | apply below_drew1 | (refine below_set ?_ l0) | (refine below_set ?_ l1))
  · intro e a' w' h
    cases e <;> simp only [Goes] at h
    obtain ⟨hd, hc⟩ := h
    cases c₀
    simp_all [bodyPostS, results, Try.results28]
end Go.Proofs.Ytncgbkmhigdflaa.Caught
