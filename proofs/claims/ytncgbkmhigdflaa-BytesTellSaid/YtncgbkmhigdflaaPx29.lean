-- Written by this session's own program wip/gen.py; Lean checks it.
import Derived.Test.YtncgbkmhigdflaaPx0
namespace Go.Proofs.Ytncgbkmhigdflaa.P
open Go.RowKit Go.Proofs.YtncgbkmhigdflaaW.PrintWords Go.Proofs.YtncgbkmhigdflaaW.PrintLast Go.Proofs.YtncgbkmhigdflaaW.PrintMore
attribute [local go_sem] max2_int min2_int max_two min_two max_three min_three max_four min_four   -- for this text's walks alone
set_option linter.unusedVariables false
set_option linter.unusedSimpArgs false

/-! ### slices_Clone_byte_byte: function 29 -/
theorem eq_nil (n c : Nat) (W : World) : Sem.run Try.prog (binOp .eql 22 (.slice none n c) (.slice none 0 0)) W = .ok (.bool true) W := by kernel_rfl
theorem eq_some (ad : Addr) (n c : Nat) (W : World) : Sem.run Try.prog (binOp .eql 22 (.slice (some ad) n c) (.slice none 0 0)) W = .ok (.bool false) W := by kernel_rfl
def slices_Clone_byte_byte.f (l0 : List Int) : Option (List Int) := if l0.length < 140737488355328 then some l0 else none
set_option maxHeartbeats 1600000 in
theorem slices_Clone_byte_byte.calls (A0 : Option Addr) (c0 : Nat) (l0 : List Int) (r : List Int) (w : World) (hr0 : Kd.C (Kd.int .u8) w A0 l0.length l0) (hc0 : l0.length ≤ c0) (h : slices_Clone_byte_byte.f l0 = some r) :
    Calls Try.prog 29 #[.slice A0 l0.length c0] w fun e w' => ∃ v0_ : Value, e = .returned (v0_) ∧ Kd.R (Kd.int .u8) 5 w' w.heap.size (fun _ => True) v0_ r ∧ Below w.heap.size w w' := by
  unfold slices_Clone_byte_byte.f at h
  by_cases hs : l0.length < 140737488355328
  · rw [if_pos hs] at h
    obtain rfl := Option.some.inj h
    clear h
    have HR0 := Aside0.mk hr0
    have HC0 := Aside0.mk hc0
    have HB := Aside0.mk (Below.refl w.heap.size w)
    cases A0 with
    | none =>
      have hl : l0 = [] := by
        rcases Nat.eq_zero_or_pos l0.length with h | h
        · exact List.length_eq_zero_iff.1 h
        · obtain ⟨ad, h1, _⟩ := hr0.2.2 h
          cases h1
      subst hl
      clear hr0 hc0
      have he := fun W => eq_nil 0 c0 W
      go_enter Try.func29, Try.ntmps29
      go_wp2
      go_ret
      refine ⟨_, rfl, Kd.R_nil _ _ _ _ _, ?_⟩
      with_reducible repeat (first | exact HB.out | apply below_alloc | apply pw_below_drewN | apply below_drew1)
    | some ad =>
      clear hr0 hc0
      have LM := Aside0.mk hs
      clear hs
      have he := fun W => eq_some ad l0.length c0 W
      go_enter Try.func29, Try.ntmps29
      go_wp2_with (first
        | ((with_reducible refine gate_dst (N := 5) rfl ?_); refine Kd.R_lit (Kd.int .u8) _ 5 ?hg (N := 5) ?hd (xs := ([] : List Int)) (inner := []) (ok := fun _ => True) (okp := fun _ => True) ?hr ?hp (fun _ hk => hk) trivial (Below.refl _ _) (Nat.le_refl _) (by simp) ?_; (case hd => rfl); (case hg => rfl); (case hr => first | (go_simp; done) | (go_simp; rfl)); (case hp => exact (Reps.none _ _)); intro v102 w6 ho7 hb hg_ hnew_; clear hg_ hnew_; have n0_ := Aside0.mk (Kd.R_lower ho7 (below_size (by repeat (first | (with_reducible first | exact HB.out | apply below_alloc | apply pw_below_drewN | apply below_drew1) | exact HB.out)))); have n1_ := Aside0.mk (below_step (by repeat (first | (with_reducible first | exact HB.out | apply below_alloc | apply pw_below_drewN | apply below_drew1) | exact HB.out)) hb); clear HB; have HO103 := n0_; have HB := n1_; clear n0_ n1_; clear hb ho7)
        | ((with_reducible refine gate_builtin (b := .append) (xs := #[.tmp 5, .tmp 6]) rfl ?_); at_builtin; refine Kd.R_append_rows (Kd.int .u8) (w0 := w) w.heap.size rfl (.tmp 5) (.tmp 6) 22 5 (.int .u8 0) 1 rfl Try.underlying22 info5 rfl (by decide) (by omega) v102 ([] : List Int) l0 _ _ _ (fun _ => True) (fun _ => False) rfl rfl ?aO ?aR (fun _ _ h => h) (fun _ h => h.elim) ?aF ?aB ?aS ?aL ?_; (case aR => repeat (first | exact (Kd.C_below HR0.out HB.out) | (with_reducible refine Kd.C_alloc ?_ _) | (with_reducible refine Kd.C_drewN ?_ _) | (with_reducible refine Kd.C_drew ?_))); (case aB => exact (by repeat (first | (with_reducible first | exact HB.out | apply below_alloc | apply pw_below_drewN | apply below_drew1) | exact HB.out))); (case aF => exact (fun _ _ => trivial)); (case aO => exact (by (with_reducible repeat (first | apply Kd.R_alloc | apply Kd.R_drewN | apply Kd.R_drew)); exact HO103.out)); (case aS => exact (below_size (by repeat (first | (with_reducible first | exact HB.out | apply below_alloc | apply pw_below_drewN | apply below_drew1) | exact HB.out)))); (case aL => have := LM.out; simp; omega); intro v105 w8 ho hb hg hat; have n0_ := Aside0.mk (hb); have n1_ := Aside0.mk (ho); clear HB; clear HO103; have HB := n0_; have HO106 := n1_; clear n0_ n1_; clear ho hb hg hat))
      go_ret
      refine ⟨_, rfl, ?_, ?_⟩
      · have := HO106.out
        simp only [List.nil_append] at this
        exact (by (with_reducible repeat (first | apply Kd.R_alloc | apply Kd.R_drewN | apply Kd.R_drew)); exact this)
      · with_reducible repeat (first | exact HB.out | apply below_alloc | apply pw_below_drewN | apply below_drew1)
  · rw [if_neg hs] at h; cases h

end Go.Proofs.Ytncgbkmhigdflaa.P
