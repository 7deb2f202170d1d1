-- Written by this session's own program wip/gen.py; Lean checks it.
import Derived.Test.YtncgbkmhigdflaaPx0
import Derived.Test.YtncgbkmhigdflaaPx26
import Derived.Test.YtncgbkmhigdflaaBytesCaught
import Derived.Test.YtncgbkmhigdflaaPx26
import Derived.WalkLawsBesides
import Derived.Recover
import Derived.Defers
import Derived.RegionTactic
namespace Go.Proofs.Ytncgbkmhigdflaa.P
open Go.RowKit Go.Proofs.YtncgbkmhigdflaaW.PrintWords Go.Proofs.YtncgbkmhigdflaaW.PrintLast Go.Proofs.YtncgbkmhigdflaaW.PrintMore
attribute [local go_sem] max2_int min2_int max_two min_two max_three min_three max_four min_four   -- for this text's walks alone
set_option linter.unusedVariables false
set_option linter.unusedSimpArgs false

/-! ### bytes_ReadText: function 10 -/
-- import Derived.Test.YtncgbkmhigdflaaBytesCaught
-- import Derived.Test.YtncgbkmhigdflaaPx26
-- import Derived.WalkLawsBesides
-- import Derived.Recover
-- import Derived.Defers
-- import Derived.RegionTactic
open Go.Proofs.Ytncgbkmhigdflaa.Base Go.Proofs.Ytncgbkmhigdflaa.Caught
def bytes_ReadText.f (l0 : List Int) : Option (ByteArray × Int × Int) :=
  match bytes_num.f l0 with
  | some (n, u) =>
    if wrap64 ((l0.length : Int) - u) < n then some (⟨#[]⟩, 0, 16)
    else if 0 ≤ u ∧ u ≤ wrap64 (u + n) ∧ wrap64 (u + n) ≤ (l0.length : Int) then some (strOfNums ((l0.take (wrap64 (u + n)).toNat).drop u.toNat), wrap64 (u + n), 0)
    else none
  | none => some (⟨#[]⟩, 0, 16)
def WT (w : World) : World := ((w.alloc (.cells #[.string ⟨#[]⟩] 9 (0, 0))).alloc (.cells #[.int .i64 0] 3 (0, 0))).alloc (.cells #[.int .i64 0] 24 (0, 0))
theorem WT_0 (w : World) : (WT w).heap[w.heap.size]? = some (.cells #[.string ⟨#[]⟩] 9 (0, 0)) := by
  have := blk_new (w) (.cells #[.string ⟨#[]⟩] 9 (0, 0))
  exact blk_alloc (blk_alloc this _) _
theorem WT_1 (w : World) : (WT w).heap[w.heap.size + 1]? = some (.cells #[.int .i64 0] 3 (0, 0)) := by
  have := blk_new (w.alloc (.cells #[.string ⟨#[]⟩] 9 (0, 0))) (.cells #[.int .i64 0] 3 (0, 0))
  rw [World.size_alloc] at this
  exact blk_alloc this _
theorem WT_2 (w : World) : (WT w).heap[w.heap.size + 1 + 1]? = some (.cells #[.int .i64 0] 24 (0, 0)) := by
  have := blk_new ((w.alloc (.cells #[.string ⟨#[]⟩] 9 (0, 0))).alloc (.cells #[.int .i64 0] 3 (0, 0))) (.cells #[.int .i64 0] 24 (0, 0))
  rw [World.size_alloc] at this
  rw [World.size_alloc] at this
  exact this
theorem WT_below (w : World) : Below w.heap.size w (WT w) := below_alloc (below_alloc (below_alloc (Below.refl _ _) _) _) _
set_option maxHeartbeats 3200000 in
theorem bytes_ReadText.calls (A0 : Option Addr) (c0 : Nat) (l0 : List Int) (r1 : ByteArray) (r2 : Int) (r3 : Int) (w : World) (hr0 : Kd.C (Kd.int .u8) w A0 l0.length l0) (hc0 : l0.length ≤ c0) (h : bytes_ReadText.f l0 = some (r1, r2, r3)) :
    Calls Try.prog 10 #[.slice A0 l0.length c0] w fun e w' => e = .returned (.tuple #[.string r1, .int .i64 r2, .int .i64 r3]) ∧ Below w.heap.size w w' := by
  have hmf : ∀ (fn : Fn) (first cap : Array Value) (w : World), (Instr.makeFunc fn first cap).run Try.prog w = .ok (.func fn first cap) w := fun _ _ _ _ => rfl
  have HN : ∀ W, Below w.heap.size w W → Aside0 (Calls Try.prog 26 #[.slice A0 l0.length c0] W (NumEnd W (bytes_num.f l0))) := fun W hb => ⟨bytes_num.any A0 c0 l0 _ W (Kd.C_below hr0 hb) hc0 rfl⟩
  have HR0 := Aside0.mk hr0
  have HC0 := Aside0.mk hc0
  clear hr0 hc0
  unfold bytes_ReadText.f at h
  cases ho : bytes_num.f l0 with
  | none =>
    rw [ho] at h HN
    simp only [Option.some.injEq, Prod.mk.injEq] at h
    obtain ⟨rfl, rfl, rfl⟩ := h
    clear ho
    go_enter_defers Try.func10, Try.ntmps10
    go_wp2_with (first | (go_at_call 26; refine ((HN _ (by with_reducible repeat (first | exact Below.refl _ _ | apply below_alloc | apply pw_below_drewN | apply below_drew1))).out).mono ?_; rintro e w3 ⟨rfl, ⟨nd, rfl⟩⟩))
    refine leaves_cons (f := 27) (args := #[.pointer (some ⟨w.heap.size, 0, none⟩), .pointer (some ⟨w.heap.size + 1, 0, none⟩), .pointer (some ⟨w.heap.size + 1 + 1, 0, none⟩)]) (by simp) (by simp [go_sem]) ?_
    refine (ReadText1_caught w.heap.size (w.heap.size + 1) (w.heap.size + 1 + 1) 16 (by decide) (.string ⟨#[]⟩) (.int .i64 0) (.int .i64 0) [] w _ (b0 := blk_drewN (WT_0 w) _) (b1 := blk_drewN (WT_1 w) _) (b2 := blk_drewN (WT_2 w) _) (by omega) (by omega) (by omega) (by omega) (by omega) (by omega) (pw_below_drewN (WT_below w) _)).mono ?_
    rintro e u' w4 ⟨rfl, rfl, h0, h1, h2, hb4⟩
    have c0 : w4.cell? ⟨w.heap.size, 0, none⟩ = some (.string ⟨#[]⟩) := (blk_cell h0 0).trans rfl
    have c1 : w4.cell? ⟨w.heap.size + 1, 0, none⟩ = some (.int .i64 0) := (blk_cell h1 0).trans rfl
    have c2 : w4.cell? ⟨w.heap.size + 1 + 1, 0, none⟩ = some (.int .i64 16) := (blk_cell h2 0).trans rfl
    exact ⟨.tuple #[.string ⟨#[]⟩, .int .i64 0, .int .i64 16], by simp [results, Try.results10, go_sem, c0, c1, c2], rfl, hb4⟩
  | some q =>
    obtain ⟨n, u⟩ := q
    rw [ho] at h HN
    simp only at h
    clear ho
    obtain ⟨d, hd⟩ : ∃ d, wrap64 ((l0.length : Int) - u) = d := ⟨_, rfl⟩
    obtain ⟨v, hv⟩ : ∃ v, wrap64 (u + n) = v := ⟨_, rfl⟩
    rw [hd, hv] at h
    by_cases hlt : d < n
    · rw [if_pos hlt] at h
      simp only [Option.some.injEq, Prod.mk.injEq] at h
      obtain ⟨rfl, rfl, rfl⟩ := h
      have k1 : decide (d < n) = true := decide_eq_true hlt
      clear hlt
      go_enter_defers Try.func10, Try.ntmps10
      go_wp2_with (first | (go_at_call 26; refine ((HN _ (by with_reducible repeat (first | exact Below.refl _ _ | apply below_alloc | apply pw_below_drewN | apply below_drew1))).out).mono ?_; rintro e w3 ⟨rfl, ⟨nd, rfl⟩⟩))
      refine leaves_cons (f := 27) (args := #[.pointer (some ⟨w.heap.size, 0, none⟩), .pointer (some ⟨w.heap.size + 1, 0, none⟩), .pointer (some ⟨w.heap.size + 1 + 1, 0, none⟩)]) (by simp) (by simp [go_sem]) ?_
      refine (ReadText1_caught w.heap.size (w.heap.size + 1) (w.heap.size + 1 + 1) 16 (by decide) (.string ⟨#[]⟩) (.int .i64 0) (.int .i64 0) [] w _ (b0 := blk_drewN (WT_0 w) _) (b1 := blk_drewN (WT_1 w) _) (b2 := blk_drewN (WT_2 w) _) (by omega) (by omega) (by omega) (by omega) (by omega) (by omega) (pw_below_drewN (WT_below w) _)).mono ?_
      rintro e u' w4 ⟨rfl, rfl, h0, h1, h2, hb4⟩
      have c0 : w4.cell? ⟨w.heap.size, 0, none⟩ = some (.string ⟨#[]⟩) := (blk_cell h0 0).trans rfl
      have c1 : w4.cell? ⟨w.heap.size + 1, 0, none⟩ = some (.int .i64 0) := (blk_cell h1 0).trans rfl
      have c2 : w4.cell? ⟨w.heap.size + 1 + 1, 0, none⟩ = some (.int .i64 16) := (blk_cell h2 0).trans rfl
      exact ⟨.tuple #[.string ⟨#[]⟩, .int .i64 0, .int .i64 16], by simp [results, Try.results10, go_sem, c0, c1, c2], rfl, hb4⟩
    · rw [if_neg hlt] at h
      by_cases hin : 0 ≤ u ∧ u ≤ v ∧ v ≤ (l0.length : Int)
      · rw [if_pos hin] at h
        simp only [Option.some.injEq, Prod.mk.injEq] at h
        obtain ⟨rfl, rfl, rfl⟩ := h
        obtain ⟨h1, h2, h3⟩ := hin
        have k1 : decide (d < n) = false := decide_eq_false hlt
        obtain ⟨i0, hi0, _, hsz, _⟩ := info_parts info5
        obtain ⟨A', hcut, hA, hC⟩ := print_mid_int (P := Try.prog) (k := .u8) 22 5 Try.underlying22 hi0 hsz A0 c0 l0 u v h1 h2 h3 HC0.out
        have hr := Kd.C_of_reads (h1 := fun _ => rfl) (hA _ (Kd.reads_of_C HR0.out))
        clear hA
        generalize (l0.take v.toNat).drop u.toNat = m at *
        have hcv := fun (q : Nat) => (show Sem.run Try.prog (convert 22 9 (.slice A' m.length (c0 - u.toNat))) ((((w.alloc (.cells #[.string ⟨#[]⟩] 9 (0, 0))).alloc (.cells #[.int .i64 0] 3 (0, 0))).alloc (.cells #[.int .i64 0] 24 (0, 0))).drewN q) = _ from Kd.C_string (P := Try.prog) (A := A') (c := c0 - u.toNat) Try.underlying22 Try.underlying5 Try.underlying9 (Kd.C_below hr (pw_below_drewN (WT_below w) q)))
        have d0 := fun (q : Nat) => (show ((((w.alloc (.cells #[.string ⟨#[]⟩] 9 (0, 0))).alloc (.cells #[.int .i64 0] 3 (0, 0))).alloc (.cells #[.int .i64 0] 24 (0, 0))).drewN q).cell? ⟨w.heap.size, 0, none⟩ = some (.string ⟨#[]⟩) from (blk_cell (blk_drewN (WT_0 w) q) 0).trans rfl)
        clear hlt h1 h2 h3 hr hC hi0 hsz
        go_enter_defers Try.func10, Try.ntmps10
        go_wp2_with (first | (go_at_call 26; refine ((HN _ (by with_reducible repeat (first | exact Below.refl _ _ | apply below_alloc | apply pw_below_drewN | apply below_drew1))).out).mono ?_; rintro e w3 ⟨rfl, ⟨nd, rfl⟩⟩))
        refine leaves_cons (f := 27) (args := #[.pointer (some ⟨w.heap.size, 0, none⟩), .pointer (some ⟨w.heap.size + 1, 0, none⟩), .pointer (some ⟨w.heap.size + 1 + 1, 0, none⟩)]) (by simp) (by simp [go_sem]) ?_
        refine (ReadText1_idle _ _ _ _).mono ?_
        rintro e u' w4 ⟨rfl, rfl, ⟨nd2, rfl⟩⟩
        have hS : (fun w' : World => w'.heap[w.heap.size]? = some (.cells #[.string (strOfNums m)] 9 (0, 0)) ∧ w'.heap[w.heap.size + 1]? = some (.cells #[.int .i64 v] 3 (0, 0)) ∧ w'.heap[w.heap.size + 1 + 1]? = some (.cells #[.int .i64 0] 24 (0, 0)) ∧ Below w.heap.size w w') (((((WT w).drewN nd).setCell ⟨w.heap.size, 0, none⟩ (.string (strOfNums m))).setCell ⟨w.heap.size + 1, 0, none⟩ (.int .i64 v)).setCell ⟨w.heap.size + 1 + 1, 0, none⟩ (.int .i64 0)) := by
          refine ⟨?_, ?_, ?_, ?_⟩
          · exact blk_far (blk_far (blk_put (cs := #[.string ⟨#[]⟩]) (blk_drewN (WT_0 w) _) 0 _ rfl) (by simp) _) (by simp; try omega) _
          · exact blk_far (blk_put (cs := #[.int .i64 0]) (blk_far (blk_drewN (WT_1 w) _) (by simp) _) 0 _ rfl) (by simp) _
          · exact blk_put (cs := #[.int .i64 0]) (blk_far (blk_far (blk_drewN (WT_2 w) _) (by simp; try omega) _) (by simp) _) 0 _ rfl
          · exact below_set (below_set (below_set (pw_below_drewN (WT_below w) _) (Nat.le_refl _)) (Nat.le_succ _)) (by omega)
        unfold WT at hS
        generalize (World.setCell (World.setCell (World.setCell _ _ _) _ _) _ _) = w5 at hS ⊢
        have c0 : (w5.drewN nd2).cell? ⟨w.heap.size, 0, none⟩ = some (.string (strOfNums m)) := (blk_cell (blk_drewN hS.1 _) 0).trans rfl
        have c1 : (w5.drewN nd2).cell? ⟨w.heap.size + 1, 0, none⟩ = some (.int .i64 v) := (blk_cell (blk_drewN hS.2.1 _) 0).trans rfl
        have c2 : (w5.drewN nd2).cell? ⟨w.heap.size + 1 + 1, 0, none⟩ = some (.int .i64 0) := (blk_cell (blk_drewN hS.2.2.1 _) 0).trans rfl
        exact ⟨.tuple #[.string (strOfNums m), .int .i64 v, .int .i64 0], by simp [results, Try.results10, go_sem, c0, c1, c2], rfl, pw_below_drewN hS.2.2.2 _⟩
      · rw [if_neg hin] at h; cases h

end Go.Proofs.Ytncgbkmhigdflaa.P
