/- Alts' closure: what it catches. -/
import Derived.Test.YtilldpmlcgikdaaReadDef
set_option linter.unusedVariables false
set_option linter.unusedSimpArgs false
namespace Go.Proofs.Ytilldpmlcgikdaa.P
open Go.RowKit Go.Proofs.YtilldpmlcgikdaaW.PrintWords Go.Proofs.YtilldpmlcgikdaaW.PrintLast Go.Proofs.YtilldpmlcgikdaaW.PrintMore Go.Proofs.Ytilldpmlcgikdaa.Base
theorem Alts1_idle (pl pf : Addr) (w : World) :
    CallsD Try.prog 16 #[.pointer (some pl), .pointer (some pf)] .returning w fun e u' w' => e = .returned (.tuple #[]) ∧ u' = .returning ∧ w' = w := by
  refine callsD_of_wpS Try.func16 rfl fun c₀ cs hu => ?_
  apply wpS_seq
  apply wpS_region
  simp [wpOpsS, go_sem, recoverD, hu, Try.ntmps16, Exit.thenS]
  apply wpS_seq
  apply wpS_region
  simp [wpOpsS, go_sem, Exit.thenS]
  refine wpS_cond (t := false) (by simp [Act.eval, Array.replicate]) ?_
  simp only [Bool.false_eq_true, if_false]
  refine wpS_of_wp (wp_skip ?_)
  cases c₀
  simp_all [bodyPostS, results, Try.results16]
theorem assert_fault (x : Value) (w : World) : (Instr.typeAssert (.iface 28 x) 20 28 true).run Try.prog w = .ok (.tuple #[x, .bool true]) w := by kernel_rfl
def GoesA (R : Act → World → Prop) : Exit → Act → World → Prop
  | .normal, a, w => R a w
  | _, _, _ => False
def CatchEndA (gl gf : Nat) (e p : Int) (w' : World) : Prop :=
  w'.heap[gl]? = some (.cells #[.slice none 0 0] 25 (0, 0)) ∧ w'.heap[gf]? = some (.cells #[.int .i64 e, .int .i64 p] 28 (0, 0))
set_option maxHeartbeats 1000000 in
theorem Alts1_caught (gl gf : Nat) (ec p : Int) (u : Value) (older : List PanicEntry) (w0 w : World) (hl : w.heap[gl]? = some (.cells #[u] 25 (0, 0))) (hf : w.heap[gf]? = some (.cells #[.int .i64 0, .int .i64 0] 28 (0, 0)))
    (h1 : w0.heap.size ≤ gl) (h2 : w0.heap.size ≤ gf) (HB : Below w0.heap.size w0 w) :
    CallsD Try.prog 16 #[.pointer (some ⟨gl, 0, none⟩), .pointer (some ⟨gf, 0, none⟩)] (.panicking ({ v := .iface 28 (.agg #[.int .i64 ec, .int .i64 p]), recovered := false } :: older)) w fun e u' w' =>
      e = .returned (.tuple #[]) ∧ u' = .panicking ({ v := .iface 28 (.agg #[.int .i64 ec, .int .i64 p]), recovered := true } :: older) ∧ CatchEndA gl gf ec p w' ∧ Below w0.heap.size w0 w' := by
  have hne : gl ≠ gf := blk_ne hl hf (by decide)
  have c0 : w.cell? ⟨gl, 0, none⟩ = some u := (blk_cell hl 0).trans rfl
  have c1 : w.cell? ⟨gf, 0, none⟩ = some (.int .i64 0) := (blk_cell hf 0).trans rfl
  have c2 : w.cell? ⟨gf, 1, none⟩ = some (.int .i64 0) := (blk_cell hf 1).trans rfl
  have f0 := blk_frozen hl 0
  have f1 := blk_frozen hf 0
  have f2 := blk_frozen hf 1
  have ll := blk_lt hl
  have lf := blk_lt hf
  have HL := Aside0.mk hl
  have HF := Aside0.mk hf
  clear hl hf
  refine callsD_of_wpS Try.func16 rfl fun c₀ cs hu => ?_
  simp only [Try.ntmps16, List.size_toArray, List.length_cons, List.length_nil, Nat.reduceAdd, Nat.reduceSub, Array.replicate_succ, Array.replicate_zero, List.push_toArray, List.append_toArray, List.nil_append, List.cons_append]
  apply wpS_seq
  apply wpS_region
  simp [wpOpsS, go_sem, recoverD, hu, Exit.thenS]
  refine wpS_of_wp (wp_mono (Q := GoesA fun a' w' => a'.defers = [] ∧ CatchEndA gl gf ec p w' ∧ Below w0.heap.size w0 w') ?_ ?_)
  · clear hu
    have hta := fun W => assert_fault (.agg #[.int .i64 ec, .int .i64 p]) W
    go_wp2
    go_region
    all_goals
      refine ⟨rfl, ⟨?_, ?_⟩, ?_⟩
      · with_reducible repeat (first | exact HL.out | (refine blk_drew ?_) | (refine blk_drewN ?_ _) | (refine blk_alloc ?_ _))
        refine blk_far ?_ hne _
        refine blk_far ?_ hne _
        refine blk_put (cs := #[u]) ?_ 0 _ rfl
        with_reducible repeat (first | exact HL.out | (refine blk_drew ?_) | (refine blk_drewN ?_ _) | (refine blk_alloc ?_ _))
      · with_reducible repeat (first | exact HF.out | (refine blk_drew ?_) | (refine blk_drewN ?_ _) | (refine blk_alloc ?_ _))
        refine blk_put (cs := #[.int .i64 ec, .int .i64 0]) ?_ 1 _ rfl
        refine blk_put (cs := #[.int .i64 0, .int .i64 0]) ?_ 0 _ rfl
        refine blk_far ?_ (Ne.symm hne) _
        with_reducible repeat (first | exact HF.out | (refine blk_drew ?_) | (refine blk_drewN ?_ _) | (refine blk_alloc ?_ _))
      · with_reducible repeat (first | exact HB | apply below_alloc | apply pw_below_drewN | apply below_drew1 | (refine below_set ?_ h1) | (refine below_set ?_ h2))
  · intro e a' w' h
    cases e <;> simp only [GoesA] at h
    obtain ⟨hd, hc, hb⟩ := h
    cases c₀
    simp_all [bodyPostS, results, Try.results16]
end Go.Proofs.Ytilldpmlcgikdaa.P
