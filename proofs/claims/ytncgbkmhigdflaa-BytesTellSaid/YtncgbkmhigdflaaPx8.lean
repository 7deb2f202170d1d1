-- Written by this session's own program wip/gen.py; Lean checks it.
import Derived.Test.YtncgbkmhigdflaaPx0
import Derived.Test.YtncgbkmhigdflaaPx26
import Derived.Test.YtncgbkmhigdflaaBytesCaught
import Derived.Test.YtncgbkmhigdflaaPx26
import Derived.WalkLawsBesides
import Derived.Recover
import Derived.Defers
import Derived.RegionTactic
namespace Go.Proofs.Ytncgbkmhigdflaa.P
open Go.RowKit Go.Proofs.YtncgbkmhigdflaaW.PrintWords Go.Proofs.YtncgbkmhigdflaaW.PrintLast Go.Proofs.YtncgbkmhigdflaaW.PrintMore
attribute [local go_sem] max2_int min2_int max_two min_two max_three min_three max_four min_four   -- for this text's walks alone
set_option linter.unusedVariables false
set_option linter.unusedSimpArgs false

/-! ### bytes_ReadNum: function 8 -/
-- import Derived.Test.YtncgbkmhigdflaaBytesCaught
-- import Derived.Test.YtncgbkmhigdflaaPx26
-- import Derived.WalkLawsBesides
-- import Derived.Recover
-- import Derived.Defers
-- import Derived.RegionTactic
open Go.Proofs.Ytncgbkmhigdflaa.Base Go.Proofs.Ytncgbkmhigdflaa.Caught
def bytes_ReadNum.f (l0 : List Int) : Option (Int × Int × Int) :=
  match bytes_num.f l0 with
  | some (n, u) => some (n, u, 0)
  | none => some (0, 0, 16)
def W3 (w : World) : World := ((w.alloc (.cells #[.int .i64 0] 3 (0, 0))).alloc (.cells #[.int .i64 0] 3 (0, 0))).alloc (.cells #[.int .i64 0] 24 (0, 0))
theorem W3_0 (w : World) : (W3 w).heap[w.heap.size]? = some (.cells #[.int .i64 0] 3 (0, 0)) := blk_alloc (blk_alloc (blk_new _ _) _) _
theorem W3_1 (w : World) : (W3 w).heap[w.heap.size + 1]? = some (.cells #[.int .i64 0] 3 (0, 0)) := by
  have := blk_new (w.alloc (.cells #[.int .i64 0] 3 (0, 0))) (.cells #[.int .i64 0] 3 (0, 0))
  rw [World.size_alloc] at this
  exact blk_alloc this _
theorem W3_2 (w : World) : (W3 w).heap[w.heap.size + 1 + 1]? = some (.cells #[.int .i64 0] 24 (0, 0)) := by
  have := blk_new ((w.alloc (.cells #[.int .i64 0] 3 (0, 0))).alloc (.cells #[.int .i64 0] 3 (0, 0))) (.cells #[.int .i64 0] 24 (0, 0))
  rw [World.size_alloc, World.size_alloc] at this
  exact this
theorem W3_below (w : World) : Below w.heap.size w (W3 w) := below_alloc (below_alloc (below_alloc (Below.refl _ _) _) _) _
set_option maxHeartbeats 3200000 in
theorem bytes_ReadNum.calls (A0 : Option Addr) (c0 : Nat) (l0 : List Int) (r1 : Int) (r2 : Int) (r3 : Int) (w : World) (hr0 : Kd.C (Kd.int .u8) w A0 l0.length l0) (hc0 : l0.length ≤ c0) (h : bytes_ReadNum.f l0 = some (r1, r2, r3)) :
    Calls Try.prog 8 #[.slice A0 l0.length c0] w fun e w' => e = .returned (.tuple #[.int .i64 r1, .int .i64 r2, .int .i64 r3]) ∧ Below w.heap.size w w' := by
  have hmf : ∀ (fn : Fn) (first cap : Array Value) (w : World), (Instr.makeFunc fn first cap).run Try.prog w = .ok (.func fn first cap) w := fun _ _ _ _ => rfl
  have HN : ∀ W, Below w.heap.size w W → Aside0 (Calls Try.prog 26 #[.slice A0 l0.length c0] W (NumEnd W (bytes_num.f l0))) := fun W hb => ⟨bytes_num.any A0 c0 l0 _ W (Kd.C_below hr0 hb) hc0 rfl⟩
  clear hr0 hc0
  unfold bytes_ReadNum.f at h
  cases ho : bytes_num.f l0 with
  | none =>
    rw [ho] at h HN
    simp only [Option.some.injEq, Prod.mk.injEq] at h
    obtain ⟨rfl, rfl, rfl⟩ := h
    clear ho
    go_enter_defers Try.func8, Try.ntmps8
    go_wp2_with (first | (go_at_call 26; refine ((HN _ (by with_reducible repeat (first | exact Below.refl _ _ | apply below_alloc | apply pw_below_drewN | apply below_drew1))).out).mono ?_; rintro e w3 ⟨rfl, ⟨nd, rfl⟩⟩))
    refine leaves_cons (f := 24) (args := #[.pointer (some ⟨w.heap.size, 0, none⟩), .pointer (some ⟨w.heap.size + 1, 0, none⟩), .pointer (some ⟨w.heap.size + 1 + 1, 0, none⟩)]) (by simp) (by simp [go_sem]) ?_
    refine (ReadNum1_caught w.heap.size (w.heap.size + 1) (w.heap.size + 1 + 1) 16 (by decide) (.int .i64 0) (.int .i64 0) (.int .i64 0) [] w _ (b0 := blk_drewN (W3_0 w) _) (b1 := blk_drewN (W3_1 w) _) (b2 := blk_drewN (W3_2 w) _) (by omega) (by omega) (by omega) (by omega) (by omega) (by omega) (pw_below_drewN (W3_below w) _)).mono ?_
    rintro e u' w4 ⟨rfl, rfl, h0, h1, h2, hb4⟩
    have c0 : w4.cell? ⟨w.heap.size, 0, none⟩ = some (.int .i64 0) := (blk_cell h0 0).trans rfl
    have c1 : w4.cell? ⟨w.heap.size + 1, 0, none⟩ = some (.int .i64 0) := (blk_cell h1 0).trans rfl
    have c2 : w4.cell? ⟨w.heap.size + 1 + 1, 0, none⟩ = some (.int .i64 16) := (blk_cell h2 0).trans rfl
    exact ⟨.tuple #[.int .i64 0, .int .i64 0, .int .i64 16], by simp [results, Try.results8, go_sem, c0, c1, c2], rfl, hb4⟩
  | some q =>
    obtain ⟨n, u⟩ := q
    rw [ho] at h HN
    simp only [Option.some.injEq, Prod.mk.injEq] at h
    obtain ⟨rfl, rfl, rfl⟩ := h
    clear ho
    have d0 := fun m => (blk_cell (blk_drewN (W3_0 w) m) 0).trans rfl
    have d1 := fun m => (blk_cell (blk_drewN (W3_1 w) m) 0).trans rfl
    have d2 := fun m => (blk_cell (blk_drewN (W3_2 w) m) 0).trans rfl
    go_enter_defers Try.func8, Try.ntmps8
    go_wp2_with (first | (go_at_call 26; refine ((HN _ (by with_reducible repeat (first | exact Below.refl _ _ | apply below_alloc | apply pw_below_drewN | apply below_drew1))).out).mono ?_; rintro e w3 ⟨rfl, ⟨nd, rfl⟩⟩))
    have hS : (fun w' : World => w'.heap[w.heap.size]? = some (.cells #[.int .i64 n] 3 (0, 0)) ∧ w'.heap[w.heap.size + 1]? = some (.cells #[.int .i64 u] 3 (0, 0)) ∧ w'.heap[w.heap.size + 1 + 1]? = some (.cells #[.int .i64 0] 24 (0, 0)) ∧ Below w.heap.size w w') (((((W3 w).drewN nd).setCell ⟨w.heap.size, 0, none⟩ (.int .i64 n)).setCell ⟨w.heap.size + 1, 0, none⟩ (.int .i64 u)).drew) := by
      refine ⟨?_, ?_, ?_, ?_⟩
      · exact blk_drew (blk_far (blk_put (cs := #[.int .i64 0]) (blk_drewN (W3_0 w) _) 0 _ rfl) (by simp) _)
      · exact blk_drew (blk_put (cs := #[.int .i64 0]) (blk_far (blk_drewN (W3_1 w) _) (by simp) _) 0 _ rfl)
      · exact blk_drew (blk_far (blk_far (blk_drewN (W3_2 w) _) (by simp; omega) _) (by simp) _)
      · exact below_drew1 (below_set (below_set (pw_below_drewN (W3_below w) _) (Nat.le_refl _)) (Nat.le_succ _))
    refine wp_mono (Q := Goes ?_) ?_ (fun e a w h => ?_)
    rotate_left 2
    · cases e with
      | normal => exact h
      | _ => exact h.elim
    refine start_ (n := 5) (S := fun w' : World => w'.heap[w.heap.size]? = some (.cells #[.int .i64 n] 3 (0, 0)) ∧ w'.heap[w.heap.size + 1]? = some (.cells #[.int .i64 u] 3 (0, 0)) ∧ w'.heap[w.heap.size + 1 + 1]? = some (.cells #[.int .i64 0] 24 (0, 0)) ∧ Below w.heap.size w w') (ds := []) #[false, false, false, false, false] (by kernel_rfl) rfl rfl hS (fun hHeld => ?_)
    generalize (World.drew _) = w5 at hHeld ⊢
    refine take_ (i := 0) (N := some 11) (v := ?_) (a' := ?_) #[true, false, false, false, false] rfl rfl (by kernel_rfl) (fun _ _ _ h => h) (Or.inl ⟨by rfl, ?_⟩) hHeld ?_ ?_
    rotate_left
    · rintro w' ⟨s0, s1, s2, s3⟩
      have e0 : w'.cell? ⟨w.heap.size, 0, none⟩ = some (.int .i64 n) := (blk_cell s0 0).trans rfl
      go_simp
      with_reducible rfl
    rotate_left
    · simp only [Act.put, List.setIfInBounds_toArray, List.set_cons_zero, List.set_cons_succ]
      rfl
    refine take_ (i := 1) (N := some 12) (v := ?_) (a' := ?_) #[true, true, false, false, false] rfl rfl (by kernel_rfl) (fun _ _ _ h => h) (Or.inl ⟨by rfl, ?_⟩) hHeld ?_ ?_
    rotate_left
    · rintro w' ⟨s0, s1, s2, s3⟩
      have e0 : w'.cell? ⟨w.heap.size + 1, 0, none⟩ = some (.int .i64 u) := (blk_cell s1 0).trans rfl
      go_simp
      with_reducible rfl
    rotate_left
    · simp only [Act.put, List.setIfInBounds_toArray, List.set_cons_zero, List.set_cons_succ]
      rfl
    refine one_ (i := 2) (N := none) #[true, true, true, false, false] rfl rfl (by kernel_rfl) (by decide) (fun K hK => ?_)
    have e0 : w5.cell? ⟨w.heap.size, 0, none⟩ = some (.int .i64 n) := (blk_cell hHeld.1 0).trans rfl
    have e1 := blk_frozen hHeld.1 0
    refine skip_ (w1 := ?_) (by rfl) rfl ?_ ?_
    rotate_left
    · go_simp
      rfl
    refine hK.out _ _ ⟨blk_put (cs := #[.int .i64 n]) hHeld.1 0 _ rfl, blk_far hHeld.2.1 (by simp; try omega) _, blk_far hHeld.2.2.1 (by simp; try omega) _, below_set hHeld.2.2.2 (by omega)⟩ (fun hHeld => ?_)
    clear hK K e0 e1
    generalize (World.setCell w5 _ _) = w5 at hHeld ⊢
    refine one_ (i := 3) (N := none) #[true, true, true, true, false] rfl rfl (by kernel_rfl) (by decide) (fun K hK => ?_)
    have e0 : w5.cell? ⟨w.heap.size + 1, 0, none⟩ = some (.int .i64 u) := (blk_cell hHeld.2.1 0).trans rfl
    have e1 := blk_frozen hHeld.2.1 0
    refine skip_ (w1 := ?_) (by rfl) rfl ?_ ?_
    rotate_left
    · go_simp
      rfl
    refine hK.out _ _ ⟨blk_far hHeld.1 (by simp; try omega) _, blk_put (cs := #[.int .i64 u]) hHeld.2.1 0 _ rfl, blk_far hHeld.2.2.1 (by simp; try omega) _, below_set hHeld.2.2.2 (by omega)⟩ (fun hHeld => ?_)
    clear hK K e0 e1
    generalize (World.setCell w5 _ _) = w5 at hHeld ⊢
    refine one_ (i := 4) (N := none) #[true, true, true, true, true] rfl rfl (by kernel_rfl) (by decide) (fun K hK => ?_)
    have e0 : w5.cell? ⟨w.heap.size + 1 + 1, 0, none⟩ = some (.int .i64 0) := (blk_cell hHeld.2.2.1 0).trans rfl
    have e1 := blk_frozen hHeld.2.2.1 0
    refine skip_ (w1 := ?_) (by rfl) rfl ?_ ?_
    rotate_left
    · go_simp
      rfl
    refine hK.out _ _ ⟨blk_far hHeld.1 (by simp; try omega) _, blk_far hHeld.2.1 (by simp; try omega) _, blk_put (cs := #[.int .i64 0]) hHeld.2.2.1 0 _ rfl, below_set hHeld.2.2.2 (by omega)⟩ (fun hHeld => ?_)
    clear hK K e0 e1
    generalize (World.setCell w5 _ _) = w5 at hHeld ⊢
    refine done_ (by kernel_rfl) ?_
    simp only [Goes]
    go_wp2
    refine leaves_cons (f := 24) (args := #[.pointer (some ⟨w.heap.size, 0, none⟩), .pointer (some ⟨w.heap.size + 1, 0, none⟩), .pointer (some ⟨w.heap.size + 1 + 1, 0, none⟩)]) (by simp) (by simp [go_sem]) ?_
    refine (ReadNum1_idle _ _ _ _).mono ?_
    rintro e u' w4 ⟨rfl, rfl, ⟨nd2, rfl⟩⟩
    have c0 : (w5.drewN nd2).cell? ⟨w.heap.size, 0, none⟩ = some (.int .i64 n) := (blk_cell (blk_drewN hHeld.1 _) 0).trans rfl
    have c1 : (w5.drewN nd2).cell? ⟨w.heap.size + 1, 0, none⟩ = some (.int .i64 u) := (blk_cell (blk_drewN hHeld.2.1 _) 0).trans rfl
    have c2 : (w5.drewN nd2).cell? ⟨w.heap.size + 1 + 1, 0, none⟩ = some (.int .i64 0) := (blk_cell (blk_drewN hHeld.2.2.1 _) 0).trans rfl
    exact ⟨.tuple #[.int .i64 n, .int .i64 u, .int .i64 0], by simp [results, Try.results8, go_sem, c0, c1, c2], rfl, pw_below_drewN hHeld.2.2.2 _⟩

end Go.Proofs.Ytncgbkmhigdflaa.P
