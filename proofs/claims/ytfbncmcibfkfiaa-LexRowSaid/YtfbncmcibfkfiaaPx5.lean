-- Written by this session's own program wip/gen.py; Lean checks it.
import Derived.Test.YtfbncmcibfkfiaaPx0
import Derived.Test.YtfbncmcibfkfiaaPx9
import Derived.Test.YtfbncmcibfkfiaaPx10
import Derived.Test.YtfbncmcibfkfiaaPx1026
import Derived.Test.YtfbncmcibfkfiaaPx1036
namespace Go.Proofs.Ytfbncmcibfkfiaa.P
open Go.RowKit Go.Proofs.YtfbncmcibfkfiaaW.PrintWords Go.Proofs.YtfbncmcibfkfiaaW.PrintLast Go.Proofs.YtfbncmcibfkfiaaW.PrintMore
attribute [local go_sem] max2_int min2_int max_two min_two max_three min_three max_four min_four   -- for this text's walks alone
set_option linter.unusedVariables false
set_option linter.unusedSimpArgs false

attribute [local go_sem high] eqA26 eqA36
theorem set_drewN (W : World) (n : Nat) (p : Addr) (v : Value) : (W.drewN n).setCell p v = (W.setCell p v).drewN n := rfl
theorem cell_shift {W W' : World} {a : Addr} {v : Option Value} (e : W'.heap = W.heap) (h : W.cell? a = v) : W'.cell? a = v := by
  rw [← h]
  unfold World.cell?
  rw [e]
theorem newer {α : Type} {d : Kd α} {e : Nat} {W : World} {base : Nat} {ok : Nat → Prop} {v : Value} {xs : List α} {g : Nat} (h : Kd.R d e W base ok v xs) (hg : g = W.heap.size) : ∀ k, v.ownBlock = some k → k ≠ g := fun k hk => by
  obtain ⟨_, inner, ho, _⟩ := h
  have := own_lt ho k hk
  omega
/-! ### topiaristlaw01_LexRow: function 5 -/
mutual
def topiaristlaw01_LexRow.j0 : Nat → ByteArray → List (S36) → List (S36) → List (S36) → Bool → Int → Int → Int → Int → Int → Int → Option (Bool)
  | 0, _, _, _, _, _, _, _, _, _, _, _ => none
  | k + 1, x0, x5, x7, x9, x40, x108000, x108001, x114000, x114001, x120000, x120001 => if x40 = true then (if (x120000 == x108000 && (x120001 == x108001)) = true then (if (x9.length : Int) = 0 then ((topiaristlaw01_wakes.f).bind fun t120 => (some t120)) else (some false)) else (some false)) else (if x114000 = 0 then (if x120000 = 0 then (topiaristlaw01_LexRow.j1 k x0 x5 x7 x9 ((x9.length : Int) != (wrap64 ((x5.length : Int) + (x7.length : Int))))) else (topiaristlaw01_LexRow.j1 k x0 x5 x7 x9 true)) else (if (x120000 == x114000 && (x120001 == (wrap64 ((wrap64 (x114001 + (x0.size : Int))) + 1)))) = true then (if (x9.length : Int) = 0 then ((topiaristlaw01_wakes.f).bind fun t121 => (some t121)) else (some false)) else (some false)))
def topiaristlaw01_LexRow.j1 : Nat → ByteArray → List (S36) → List (S36) → List (S36) → Bool → Option (Bool)
  | 0, _, _, _, _, _ => none
  | k + 1, x0, x5, x7, x9, x86 => if x86 = true then (some false) else (topiaristlaw01_LexRow.l0 k x0 x5 x7 x9 0)
def topiaristlaw01_LexRow.l0 : Nat → ByteArray → List (S36) → List (S36) → List (S36) → Int → Option (Bool)
  | 0, _, _, _, _, _ => none
  | k + 1, x0, x5, x7, x9, x11 => topiaristlaw01_LexRow.j3 k x0 x5 x7 x9 x11 (decide (x11 < (x9.length : Int)))
def topiaristlaw01_LexRow.j3 : Nat → ByteArray → List (S36) → List (S36) → List (S36) → Int → Bool → Option (Bool)
  | 0, _, _, _, _, _, _ => none
  | k + 1, x0, x5, x7, x9, x11, x90 => if x90 = true then (if x11 < (x5.length : Int) then (if 0 ≤ x11 then (if x11 < (x9.length : Int) then (if (!(((rd_T36 x9 x11).f0) == ((rd_T36 x5 x11).f0)) || (!((((rd_T36 x9 x11).f1).toList) == (((rd_T36 x5 x11).f1).toList)) || (!(((rd_T36 x9 x11).f2) == ((rd_T36 x5 x11).f2))))) = true then (some false) else (topiaristlaw01_LexRow.l0 k x0 x5 x7 x9 (wrap64 (x11 + 1)))) else (none)) else (none)) else (if 0 ≤ (wrap64 (x11 - (x5.length : Int))) then (if (wrap64 (x11 - (x5.length : Int))) < (x7.length : Int) then (if 0 ≤ x11 then (if x11 < (x9.length : Int) then (if (!(((rd_T36 x9 x11).f0) == ((rd_T36 x7 (wrap64 (x11 - (x5.length : Int)))).f0)) || (!((((rd_T36 x9 x11).f1).toList) == (((rd_T36 x7 (wrap64 (x11 - (x5.length : Int)))).f1).toList)) || (!(((rd_T36 x9 x11).f2) == (wrap64 (((rd_T36 x7 (wrap64 (x11 - (x5.length : Int)))).f2) + (wrap64 ((x0.size : Int) + 1)))))))) = true then (some false) else (topiaristlaw01_LexRow.l0 k x0 x5 x7 x9 (wrap64 (x11 + 1)))) else (none)) else (none)) else (none)) else (none))) else ((topiaristlaw01_wakes.f).bind fun t122 => (some t122))
end
def topiaristlaw01_LexRow.f (k : Nat) (a0 : ByteArray) (a1 : ByteArray) : Option (Bool) := if (wrap64 ((a0.size : Int) + (a1.size : Int))) > 1990 then ((topiaristlaw01_wakes.f).bind fun t101 => (some t101)) else ((lex_Tokens.f a0).bind fun bt102 => ((lex_Tokens.f a1).bind fun bt108 => (if a0.size + 1 ≤ 9223372036854775807 then (if (a0 ++ (⟨#[10]⟩ : ByteArray)).size + a1.size ≤ 9223372036854775807 then ((lex_Tokens.f ((a0 ++ (⟨#[10]⟩ : ByteArray)) ++ a1)).bind fun bt114 => (topiaristlaw01_LexRow.j0 k a0 bt102.1 bt108.1 bt114.1 (bt102.2.1 != 0) bt102.2.1 bt102.2.2 bt108.2.1 bt108.2.2 bt114.2.1 bt114.2.2)) else (none)) else (none))))
theorem topiaristlaw01_LexRow.mono_l : ∀ k, (∀ y0 y1 y2 y3 y4 y5 y6 y7 y8 y9 y10, LeO (topiaristlaw01_LexRow.j0 k y0 y1 y2 y3 y4 y5 y6 y7 y8 y9 y10) (topiaristlaw01_LexRow.j0 (k + 1) y0 y1 y2 y3 y4 y5 y6 y7 y8 y9 y10)) ∧ (∀ y0 y1 y2 y3 y4, LeO (topiaristlaw01_LexRow.j1 k y0 y1 y2 y3 y4) (topiaristlaw01_LexRow.j1 (k + 1) y0 y1 y2 y3 y4)) ∧ (∀ y0 y1 y2 y3 y4, LeO (topiaristlaw01_LexRow.l0 k y0 y1 y2 y3 y4) (topiaristlaw01_LexRow.l0 (k + 1) y0 y1 y2 y3 y4)) ∧ (∀ y0 y1 y2 y3 y4 y5, LeO (topiaristlaw01_LexRow.j3 k y0 y1 y2 y3 y4 y5) (topiaristlaw01_LexRow.j3 (k + 1) y0 y1 y2 y3 y4 y5))
  | 0 => ⟨fun _ _ _ _ _ _ _ _ _ _ _ r h => by simp [topiaristlaw01_LexRow.j0] at h, fun _ _ _ _ _ r h => by simp [topiaristlaw01_LexRow.j1] at h, fun _ _ _ _ _ r h => by simp [topiaristlaw01_LexRow.l0] at h, fun _ _ _ _ _ _ r h => by simp [topiaristlaw01_LexRow.j3] at h⟩
  | k + 1 => by
    obtain ⟨ih0, ih1, ih2, ih3⟩ := topiaristlaw01_LexRow.mono_l k
    refine ⟨?_, ?_, ?_, ?_⟩
    · intro y0 y1 y2 y3 y4 y5 y6 y7 y8 y9 y10
      unfold topiaristlaw01_LexRow.j0
      repeat' first
      | (with_reducible exact ih0 _ _ _ _ _ _ _ _ _ _ _)
      | (with_reducible exact ih1 _ _ _ _ _)
      | (with_reducible exact ih2 _ _ _ _ _)
      | (with_reducible exact ih3 _ _ _ _ _ _)
      | (with_reducible exact LeO.refl _)
      | (with_reducible exact LeO.none _)
      | (with_reducible refine LeO.ite ?_ ?_)
      | (with_reducible refine LeO.bind ?_ (fun _ => ?_))
      | exact ih0 _ _ _ _ _ _ _ _ _ _ _
      | exact ih1 _ _ _ _ _
      | exact ih2 _ _ _ _ _
      | exact ih3 _ _ _ _ _ _
      | exact LeO.none _
      | refine LeO.ite ?_ ?_
      | refine LeO.bind ?_ (fun _ => ?_)
    · intro y0 y1 y2 y3 y4
      unfold topiaristlaw01_LexRow.j1
      repeat' first
      | (with_reducible exact ih0 _ _ _ _ _ _ _ _ _ _ _)
      | (with_reducible exact ih1 _ _ _ _ _)
      | (with_reducible exact ih2 _ _ _ _ _)
      | (with_reducible exact ih3 _ _ _ _ _ _)
      | (with_reducible exact LeO.refl _)
      | (with_reducible exact LeO.none _)
      | (with_reducible refine LeO.ite ?_ ?_)
      | (with_reducible refine LeO.bind ?_ (fun _ => ?_))
      | exact ih0 _ _ _ _ _ _ _ _ _ _ _
      | exact ih1 _ _ _ _ _
      | exact ih2 _ _ _ _ _
      | exact ih3 _ _ _ _ _ _
      | exact LeO.none _
      | refine LeO.ite ?_ ?_
      | refine LeO.bind ?_ (fun _ => ?_)
    · intro y0 y1 y2 y3 y4
      unfold topiaristlaw01_LexRow.l0
      repeat' first
      | (with_reducible exact ih0 _ _ _ _ _ _ _ _ _ _ _)
      | (with_reducible exact ih1 _ _ _ _ _)
      | (with_reducible exact ih2 _ _ _ _ _)
      | (with_reducible exact ih3 _ _ _ _ _ _)
      | (with_reducible exact LeO.refl _)
      | (with_reducible exact LeO.none _)
      | (with_reducible refine LeO.ite ?_ ?_)
      | (with_reducible refine LeO.bind ?_ (fun _ => ?_))
      | exact ih0 _ _ _ _ _ _ _ _ _ _ _
      | exact ih1 _ _ _ _ _
      | exact ih2 _ _ _ _ _
      | exact ih3 _ _ _ _ _ _
      | exact LeO.none _
      | refine LeO.ite ?_ ?_
      | refine LeO.bind ?_ (fun _ => ?_)
    · intro y0 y1 y2 y3 y4 y5
      unfold topiaristlaw01_LexRow.j3
      repeat' first
      | (with_reducible exact ih0 _ _ _ _ _ _ _ _ _ _ _)
      | (with_reducible exact ih1 _ _ _ _ _)
      | (with_reducible exact ih2 _ _ _ _ _)
      | (with_reducible exact ih3 _ _ _ _ _ _)
      | (with_reducible exact LeO.refl _)
      | (with_reducible exact LeO.none _)
      | (with_reducible refine LeO.ite ?_ ?_)
      | (with_reducible refine LeO.bind ?_ (fun _ => ?_))
      | exact ih0 _ _ _ _ _ _ _ _ _ _ _
      | exact ih1 _ _ _ _ _
      | exact ih2 _ _ _ _ _
      | exact ih3 _ _ _ _ _ _
      | exact LeO.none _
      | refine LeO.ite ?_ ?_
      | refine LeO.bind ?_ (fun _ => ?_)
theorem topiaristlaw01_LexRow.mono : ∀ a0 a1 k, LeO (topiaristlaw01_LexRow.f k a0 a1) (topiaristlaw01_LexRow.f (k + 1) a0 a1) := by
  intro a0 a1 k
  obtain ⟨ih0, ih1, ih2, ih3⟩ := topiaristlaw01_LexRow.mono_l k
  unfold topiaristlaw01_LexRow.f
  repeat' first
      | (with_reducible exact ih0 _ _ _ _ _ _ _ _ _ _ _)
      | (with_reducible exact ih1 _ _ _ _ _)
      | (with_reducible exact ih2 _ _ _ _ _)
      | (with_reducible exact ih3 _ _ _ _ _ _)
      | (with_reducible exact LeO.refl _)
      | (with_reducible exact LeO.none _)
      | (with_reducible refine LeO.ite ?_ ?_)
      | (with_reducible refine LeO.bind ?_ (fun _ => ?_))
      | exact ih0 _ _ _ _ _ _ _ _ _ _ _
      | exact ih1 _ _ _ _ _
      | exact ih2 _ _ _ _ _
      | exact ih3 _ _ _ _ _ _
      | exact LeO.none _
      | refine LeO.ite ?_ ?_
      | refine LeO.bind ?_ (fun _ => ?_)
set_option maxHeartbeats 8000000 in
set_option maxRecDepth 100000 in
theorem topiaristlaw01_LexRow.calls (k : Nat) (a0 : ByteArray) (a1 : ByteArray) (r : Bool) (w : World) (h : topiaristlaw01_LexRow.f k a0 a1 = some r) :
    Calls Try.prog 5 #[.string a0, .string a1] w fun e w' => e = .returned (.bool r) ∧ Below w.heap.size w w' := by
  have hu26 := Try.underlying26
  have hu36 := Try.underlying36
  have HB := Aside0.mk (Below.refl w.heap.size w)
  have H : (if (wrap64 ((a0.size : Int) + (a1.size : Int))) > 1990 then ((topiaristlaw01_wakes.f).bind fun t101 => (some t101)) else ((lex_Tokens.f a0).bind fun bt102 => ((lex_Tokens.f a1).bind fun bt108 => (if a0.size + 1 ≤ 9223372036854775807 then (if (a0 ++ (⟨#[10]⟩ : ByteArray)).size + a1.size ≤ 9223372036854775807 then ((lex_Tokens.f ((a0 ++ (⟨#[10]⟩ : ByteArray)) ++ a1)).bind fun bt114 => (topiaristlaw01_LexRow.j0 k a0 bt102.1 bt108.1 bt114.1 (bt102.2.1 != 0) bt102.2.1 bt102.2.2 bt108.2.1 bt108.2.2 bt114.2.1 bt114.2.2)) else (none)) else (none))))) = some r := h
  clear h
  by_cases c3 : (wrap64 ((a0.size : Int) + (a1.size : Int))) > 1990
  · rw [if_pos c3] at H
    have c3b0 : decide (1990 < (wrap64 ((a0.size : Int) + (a1.size : Int)))) = true := decide_eq_true c3
    clear c3
    replace H := Option.bind_eq_some_iff.mp H
    obtain ⟨t101, A40, H⟩ := H
    replace H : (some t101) = some r := H
    have A4 := Aside0.mk A40
    clear A40
    obtain rfl := Option.some.inj H
    go_enter Try.func5, Try.ntmps5
    go_wp2_with (first | (go_at_call 9; (with_reducible refine (topiaristlaw01_wakes.calls  t101 _ A4.out).mono ?_); rintro e w5 ⟨rfl, hb⟩; have n0_ := Aside0.mk (below_step (by repeat (first | (with_reducible first | exact HB.out | apply below_alloc | apply pw_below_drewN | apply below_drew1) | exact HB.out)) hb); clear HB; have HB := n0_; clear n0_; (try clear hb); (try clear hb2); (try clear hk); (try clear hi)))
    repeat (go_quiet (fail); try go_wp2)
    go_ret
    exact ⟨by first | rfl | (simp [errW_none, errW_some] <;> rfl) | (simp [*, errW_none, errW_some] <;> rfl), by repeat (first | (with_reducible first | exact HB.out | apply below_alloc | apply pw_below_drewN | apply below_drew1) | exact HB.out)⟩
  · rw [if_neg c3] at H
    have c3b0 : decide (1990 < (wrap64 ((a0.size : Int) + (a1.size : Int)))) = false := decide_eq_false c3
    clear c3
    replace H := Option.bind_eq_some_iff.mp H
    obtain ⟨⟨t102, t105, t106⟩, A60, H⟩ := H
    replace H : ((lex_Tokens.f a1).bind fun bt108 => (if a0.size + 1 ≤ 9223372036854775807 then (if (a0 ++ (⟨#[10]⟩ : ByteArray)).size + a1.size ≤ 9223372036854775807 then ((lex_Tokens.f ((a0 ++ (⟨#[10]⟩ : ByteArray)) ++ a1)).bind fun bt114 => (topiaristlaw01_LexRow.j0 k a0 t102 bt108.1 bt114.1 (t105 != 0) t105 t106 bt108.2.1 bt108.2.2 bt114.2.1 bt114.2.2)) else (none)) else (none))) = some r := H
    have A6 := Aside0.mk A60
    clear A60
    replace H := Option.bind_eq_some_iff.mp H
    obtain ⟨⟨t108, t111, t112⟩, A70, H⟩ := H
    replace H : (if a0.size + 1 ≤ 9223372036854775807 then (if (a0 ++ (⟨#[10]⟩ : ByteArray)).size + a1.size ≤ 9223372036854775807 then ((lex_Tokens.f ((a0 ++ (⟨#[10]⟩ : ByteArray)) ++ a1)).bind fun bt114 => (topiaristlaw01_LexRow.j0 k a0 t102 t108 bt114.1 (t105 != 0) t105 t106 t111 t112 bt114.2.1 bt114.2.2)) else (none)) else (none)) = some r := H
    have A7 := Aside0.mk A70
    clear A70
    by_cases c8 : a0.size + 1 ≤ 9223372036854775807
    · rw [if_pos c8] at H
      have c8b0 := eq_true c8
      have c8b1 : decide (a0.size + 1 ≤ 9223372036854775807) = true := decide_eq_true c8
      try have c8b2 : (9223372036854775807 < a0.size + 1) = False := eq_false (Nat.not_lt.2 c8)
      by_cases c9 : (a0 ++ (⟨#[10]⟩ : ByteArray)).size + a1.size ≤ 9223372036854775807
      · rw [if_pos c9] at H
        have c9b0 := eq_true c9
        have c9b1 : decide ((a0 ++ (⟨#[10]⟩ : ByteArray)).size + a1.size ≤ 9223372036854775807) = true := decide_eq_true c9
        try have c9b2 : (9223372036854775807 < (a0 ++ (⟨#[10]⟩ : ByteArray)).size + a1.size) = False := eq_false (Nat.not_lt.2 c9)
        replace H := Option.bind_eq_some_iff.mp H
        obtain ⟨⟨t114, t117, t118⟩, A100, H⟩ := H
        replace H : (topiaristlaw01_LexRow.j0 k a0 t102 t108 t114 (t105 != 0) t105 t106 t111 t112 t117 t118) = some r := H
        have A10 := Aside0.mk A100
        clear A100
        have HC11 := Aside0.mk H
        clear H
        go_enter Try.func5, Try.ntmps5
        go_upto_region 6 with (first | (go_at_call 10; (with_reducible refine (lex_Tokens.calls a0 t102 t105 t106 _ A6.out).mono ?_); rintro e w12 ⟨v103, rfl, ho0, hb⟩; have n0_ := Aside0.mk (Kd.R_lower ho0 (below_size (by repeat (first | (with_reducible first | exact HB.out | apply below_alloc | apply pw_below_drewN | apply below_drew1) | exact HB.out)))); have n1_ := Aside0.mk (below_step (by repeat (first | (with_reducible first | exact HB.out | apply below_alloc | apply pw_below_drewN | apply below_drew1) | exact HB.out)) hb); clear HB; have HO104 := n0_; have HB := n1_; clear n0_ n1_; (try clear hb); (try clear hb2); (try clear hk); (try clear hi); (try clear ho0)) | ((with_reducible refine gate_dst (N := 6) rfl ?_); (try (refine gate_guard (by rfl) ?_; dsimp only)); refine box_event ?hg (N := 6) ?hd (cs := #[.int .i64 0, .int .i64 0]) (t := 26) ?hr ?_; (case hd => rfl); (case hg => rfl); (case hr => first | (go_simp; done) | (go_simp; rfl)); intro gb107 hg w13 hbox hb; have n0_ := Aside0.mk (Kd.R_below (by (with_reducible repeat (first | apply Kd.R_alloc | apply Kd.R_drewN | apply Kd.R_drew)); exact HO104.out) hb); have n1_ := Aside0.mk (below_step (by repeat (first | (with_reducible first | exact HB.out | apply below_alloc | apply pw_below_drewN | apply below_drew1) | exact HB.out)) hb); have n2_ := Aside0.mk (hbox); have n3_ := Aside0.mk ((by rw [hg]; exact (below_size (by repeat (first | (with_reducible first | exact HB.out | apply below_alloc | apply pw_below_drewN | apply below_drew1) | exact HB.out))) : w.heap.size ≤ gb107)); have n4_ := Aside0.mk ((by rw [hg]; exact (below_size (by repeat (first | (with_reducible first | exact HB.out | apply below_alloc | apply pw_below_drewN | apply below_drew1) | exact HB.out))) : w.heap.size ≤ gb107)); clear HO104; clear HB; have HO104 := n0_; have HB := n1_; have BK107 := n2_; have GW107 := n3_; have GE107 := n4_; clear n0_ n1_ n2_ n3_ n4_; clear hb hbox hg; have hcz14_0 : w13.cell? ⟨gb107, 0, none⟩ = some (.int .i64 0) := (blk_cell BK107.out 0).trans rfl; have hcz14_1 : w13.cell? ⟨gb107, 1, none⟩ = some (.int .i64 0) := (blk_cell BK107.out 1).trans rfl; have hfz14_0 := blk_frozen BK107.out 0; have hfz14_1 := blk_frozen BK107.out 1) | (go_at_call 10; (with_reducible refine (lex_Tokens.calls a1 t108 t111 t112 _ A7.out).mono ?_); rintro e w15 ⟨v109, rfl, ho0, hb⟩; have n0_ := Aside0.mk (Kd.R_elder' (by (with_reducible repeat (first | apply Kd.R_alloc | apply Kd.R_drewN | apply Kd.R_drew)); exact (Kd.R_mono (Kd.R_far (p := ⟨gb107, 1, none⟩) (Kd.R_far (p := ⟨gb107, 0, none⟩) (Kd.R_types HO104.out BK107.out (by decide)) (fun _ hk => hk.2) (.int .i64 t105)) (fun _ hk => hk.2) (.int .i64 t106)) (fun _ h_ => h_.1))) (Kd.R_base ho0) hb); have n1_ := Aside0.mk (Kd.R_lower (Kd.R_new' ho0 (Kd.R_lt (by (with_reducible repeat (first | apply Kd.R_alloc | apply Kd.R_drewN | apply Kd.R_drew)); exact (Kd.R_mono (Kd.R_far (p := ⟨gb107, 1, none⟩) (Kd.R_far (p := ⟨gb107, 0, none⟩) (Kd.R_types HO104.out BK107.out (by decide)) (fun _ hk => hk.2) (.int .i64 t105)) (fun _ hk => hk.2) (.int .i64 t106)) (fun _ h_ => h_.1))))) (below_size (by repeat (first | (with_reducible first | exact HB.out | apply below_alloc | apply pw_below_drewN | apply below_drew1 | refine below_set ?_ GE107.out) | exact HB.out)))); have n2_ := Aside0.mk (blk_below (g := gb107) (o := .cells #[.int .i64 t105, .int .i64 t106] 26 (0, 0)) (by (with_reducible repeat (first | refine blk_drewN ?_ _ | refine blk_drew ?_ | refine blk_alloc ?_ _)); refine blk_put (cs := #[.int .i64 t105, .int .i64 0]) ?_ 1 _ rfl; (with_reducible repeat (first | refine blk_drewN ?_ _ | refine blk_drew ?_ | refine blk_alloc ?_ _)); refine blk_put (cs := #[.int .i64 0, .int .i64 0]) ?_ 0 _ rfl; (with_reducible repeat (first | refine blk_drewN ?_ _ | refine blk_drew ?_ | refine blk_alloc ?_ _)); exact BK107.out) hb); have n3_ := Aside0.mk (below_step (by repeat (first | (with_reducible first | exact HB.out | apply below_alloc | apply pw_below_drewN | apply below_drew1 | refine below_set ?_ GE107.out) | exact HB.out)) hb); clear HO104; clear BK107; clear HB; have HO104 := n0_; have HO110 := n1_; have BK107 := n2_; have HB := n3_; clear n0_ n1_ n2_ n3_; (try clear hb); (try clear hb2); (try clear hk); (try clear hi); (try clear ho0)) | ((with_reducible refine gate_dst (N := 8) rfl ?_); (try (refine gate_guard (by rfl) ?_; dsimp only)); refine box_event ?hg (N := 8) ?hd (cs := #[.int .i64 0, .int .i64 0]) (t := 26) ?hr ?_; (case hd => rfl); (case hg => rfl); (case hr => first | (go_simp; done) | (go_simp; rfl)); intro gb113 hg w16 hbox hb; have n0_ := Aside0.mk (Kd.R_below (by (with_reducible repeat (first | apply Kd.R_alloc | apply Kd.R_drewN | apply Kd.R_drew)); exact HO104.out) hb); have n1_ := Aside0.mk (Kd.R_below (by (with_reducible repeat (first | apply Kd.R_alloc | apply Kd.R_drewN | apply Kd.R_drew)); exact HO110.out) hb); have n2_ := Aside0.mk (blk_below (g := gb107) (o := .cells #[.int .i64 t105, .int .i64 t106] 26 (0, 0)) (by (with_reducible repeat (first | refine blk_drewN ?_ _ | refine blk_drew ?_ | refine blk_alloc ?_ _)); exact BK107.out) hb); have n3_ := Aside0.mk (below_step (by repeat (first | (with_reducible first | exact HB.out | apply below_alloc | apply pw_below_drewN | apply below_drew1 | refine below_set ?_ GE107.out) | exact HB.out)) hb); have n4_ := Aside0.mk (hbox); have n5_ := Aside0.mk ((by rw [hg]; exact (below_size (by repeat (first | (with_reducible first | exact HB.out | apply below_alloc | apply pw_below_drewN | apply below_drew1 | refine below_set ?_ GE107.out) | exact HB.out))) : w.heap.size ≤ gb113)); have n6_ := Aside0.mk ((by rw [hg]; exact (below_size (by repeat (first | (with_reducible first | exact HB.out | apply below_alloc | apply pw_below_drewN | apply below_drew1 | refine below_set ?_ GE107.out) | exact HB.out))) : w.heap.size ≤ gb113)); have n7_ := Aside0.mk ((by rw [hg]; exact Nat.ne_of_lt (blk_lt (g := gb107) (o := .cells #[.int .i64 t105, .int .i64 t106] 26 (0, 0)) (by (with_reducible repeat (first | refine blk_drewN ?_ _ | refine blk_drew ?_ | refine blk_alloc ?_ _)); exact BK107.out)) : gb107 ≠ gb113)); have n8_ := Aside0.mk ((by rw [hg]; exact Nat.ne_of_gt (blk_lt (g := gb107) (o := .cells #[.int .i64 t105, .int .i64 t106] 26 (0, 0)) (by (with_reducible repeat (first | refine blk_drewN ?_ _ | refine blk_drew ?_ | refine blk_alloc ?_ _)); exact BK107.out)) : gb113 ≠ gb107)); clear HO104; clear HO110; clear BK107; clear HB; have HO104 := n0_; have HO110 := n1_; have BK107 := n2_; have HB := n3_; have BK113 := n4_; have GW113 := n5_; have GE113 := n6_; have NB107_113 := n7_; have NB113_107 := n8_; clear n0_ n1_ n2_ n3_ n4_ n5_ n6_ n7_ n8_; clear hb hbox hg; have hnb17 := NB113_107.out; have hnc17 := NB107_113.out; have hcz18_0 : w16.cell? ⟨gb113, 0, none⟩ = some (.int .i64 0) := (blk_cell BK113.out 0).trans rfl; have hcz18_1 : w16.cell? ⟨gb113, 1, none⟩ = some (.int .i64 0) := (blk_cell BK113.out 1).trans rfl; have hfz18_0 := blk_frozen BK113.out 0; have hfz18_1 := blk_frozen BK113.out 1) | (go_at_call 10; (with_reducible refine (lex_Tokens.calls ((a0 ++ (⟨#[10]⟩ : ByteArray)) ++ a1) t114 t117 t118 _ A10.out).mono ?_); rintro e w19 ⟨v115, rfl, ho0, hb⟩; have n0_ := Aside0.mk (Kd.R_elder' (by (with_reducible repeat (first | apply Kd.R_alloc | apply Kd.R_drewN | apply Kd.R_drew)); exact (Kd.R_mono (Kd.R_far (p := ⟨gb113, 1, none⟩) (Kd.R_far (p := ⟨gb113, 0, none⟩) (Kd.R_types HO104.out BK113.out (by decide)) (fun _ hk => hk.2) (.int .i64 t111)) (fun _ hk => hk.2) (.int .i64 t112)) (fun _ h_ => h_.1))) (Kd.R_base ho0) hb); have n1_ := Aside0.mk (Kd.R_elder' (by (with_reducible repeat (first | apply Kd.R_alloc | apply Kd.R_drewN | apply Kd.R_drew)); exact (Kd.R_mono (Kd.R_far (p := ⟨gb113, 1, none⟩) (Kd.R_far (p := ⟨gb113, 0, none⟩) (Kd.R_types HO110.out BK113.out (by decide)) (fun _ hk => hk.2) (.int .i64 t111)) (fun _ hk => hk.2) (.int .i64 t112)) (fun _ h_ => h_.1))) (Kd.R_base ho0) hb); have n2_ := Aside0.mk (Kd.R_lower (Kd.R_new' (Kd.R_new' ho0 (Kd.R_lt (by (with_reducible repeat (first | apply Kd.R_alloc | apply Kd.R_drewN | apply Kd.R_drew)); exact (Kd.R_mono (Kd.R_far (p := ⟨gb113, 1, none⟩) (Kd.R_far (p := ⟨gb113, 0, none⟩) (Kd.R_types HO104.out BK113.out (by decide)) (fun _ hk => hk.2) (.int .i64 t111)) (fun _ hk => hk.2) (.int .i64 t112)) (fun _ h_ => h_.1))))) (Kd.R_lt (by (with_reducible repeat (first | apply Kd.R_alloc | apply Kd.R_drewN | apply Kd.R_drew)); exact (Kd.R_mono (Kd.R_far (p := ⟨gb113, 1, none⟩) (Kd.R_far (p := ⟨gb113, 0, none⟩) (Kd.R_types HO110.out BK113.out (by decide)) (fun _ hk => hk.2) (.int .i64 t111)) (fun _ hk => hk.2) (.int .i64 t112)) (fun _ h_ => h_.1))))) (below_size (by repeat (first | (with_reducible first | exact HB.out | apply below_alloc | apply pw_below_drewN | apply below_drew1 | refine below_set ?_ GE107.out | refine below_set ?_ GE113.out) | exact HB.out)))); have n3_ := Aside0.mk (blk_below (g := gb107) (o := .cells #[.int .i64 t105, .int .i64 t106] 26 (0, 0)) (by (with_reducible repeat (first | refine blk_drewN ?_ _ | refine blk_drew ?_ | refine blk_alloc ?_ _)); refine blk_far ?_ NB107_113.out _; (with_reducible repeat (first | refine blk_drewN ?_ _ | refine blk_drew ?_ | refine blk_alloc ?_ _)); refine blk_far ?_ NB107_113.out _; (with_reducible repeat (first | refine blk_drewN ?_ _ | refine blk_drew ?_ | refine blk_alloc ?_ _)); exact BK107.out) hb); have n4_ := Aside0.mk (blk_below (g := gb113) (o := .cells #[.int .i64 t111, .int .i64 t112] 26 (0, 0)) (by (with_reducible repeat (first | refine blk_drewN ?_ _ | refine blk_drew ?_ | refine blk_alloc ?_ _)); refine blk_put (cs := #[.int .i64 t111, .int .i64 0]) ?_ 1 _ rfl; (with_reducible repeat (first | refine blk_drewN ?_ _ | refine blk_drew ?_ | refine blk_alloc ?_ _)); refine blk_put (cs := #[.int .i64 0, .int .i64 0]) ?_ 0 _ rfl; (with_reducible repeat (first | refine blk_drewN ?_ _ | refine blk_drew ?_ | refine blk_alloc ?_ _)); exact BK113.out) hb); have n5_ := Aside0.mk (below_step (by repeat (first | (with_reducible first | exact HB.out | apply below_alloc | apply pw_below_drewN | apply below_drew1 | refine below_set ?_ GE107.out | refine below_set ?_ GE113.out) | exact HB.out)) hb); clear HO104; clear HO110; clear BK107; clear BK113; clear HB; have HO104 := n0_; have HO110 := n1_; have HO116 := n2_; have BK107 := n3_; have BK113 := n4_; have HB := n5_; clear n0_ n1_ n2_ n3_ n4_ n5_; (try clear hb); (try clear hb2); (try clear hk); (try clear hi); (try clear ho0)) | ((with_reducible refine gate_dst (N := 10) rfl ?_); (try (refine gate_guard (by rfl) ?_; dsimp only)); refine box_event ?hg (N := 10) ?hd (cs := #[.int .i64 0, .int .i64 0]) (t := 26) ?hr ?_; (case hd => rfl); (case hg => rfl); (case hr => first | (go_simp; done) | (go_simp; rfl)); intro gb119 hg w20 hbox hb; have n0_ := Aside0.mk (Kd.R_below (by (with_reducible repeat (first | apply Kd.R_alloc | apply Kd.R_drewN | apply Kd.R_drew)); exact HO104.out) hb); have n1_ := Aside0.mk (Kd.R_below (by (with_reducible repeat (first | apply Kd.R_alloc | apply Kd.R_drewN | apply Kd.R_drew)); exact HO110.out) hb); have n2_ := Aside0.mk (Kd.R_below (by (with_reducible repeat (first | apply Kd.R_alloc | apply Kd.R_drewN | apply Kd.R_drew)); exact HO116.out) hb); have n3_ := Aside0.mk (blk_below (g := gb107) (o := .cells #[.int .i64 t105, .int .i64 t106] 26 (0, 0)) (by (with_reducible repeat (first | refine blk_drewN ?_ _ | refine blk_drew ?_ | refine blk_alloc ?_ _)); exact BK107.out) hb); have n4_ := Aside0.mk (blk_below (g := gb113) (o := .cells #[.int .i64 t111, .int .i64 t112] 26 (0, 0)) (by (with_reducible repeat (first | refine blk_drewN ?_ _ | refine blk_drew ?_ | refine blk_alloc ?_ _)); exact BK113.out) hb); have n5_ := Aside0.mk (below_step (by repeat (first | (with_reducible first | exact HB.out | apply below_alloc | apply pw_below_drewN | apply below_drew1 | refine below_set ?_ GE107.out | refine below_set ?_ GE113.out) | exact HB.out)) hb); have n6_ := Aside0.mk (hbox); have n7_ := Aside0.mk ((by rw [hg]; exact (below_size (by repeat (first | (with_reducible first | exact HB.out | apply below_alloc | apply pw_below_drewN | apply below_drew1 | refine below_set ?_ GE107.out | refine below_set ?_ GE113.out) | exact HB.out))) : w.heap.size ≤ gb119)); have n8_ := Aside0.mk ((by rw [hg]; exact (below_size (by repeat (first | (with_reducible first | exact HB.out | apply below_alloc | apply pw_below_drewN | apply below_drew1 | refine below_set ?_ GE107.out | refine below_set ?_ GE113.out) | exact HB.out))) : w.heap.size ≤ gb119)); have n9_ := Aside0.mk ((by rw [hg]; exact Nat.ne_of_lt (blk_lt (g := gb107) (o := .cells #[.int .i64 t105, .int .i64 t106] 26 (0, 0)) (by (with_reducible repeat (first | refine blk_drewN ?_ _ | refine blk_drew ?_ | refine blk_alloc ?_ _)); exact BK107.out)) : gb107 ≠ gb119)); have n10_ := Aside0.mk ((by rw [hg]; exact Nat.ne_of_gt (blk_lt (g := gb107) (o := .cells #[.int .i64 t105, .int .i64 t106] 26 (0, 0)) (by (with_reducible repeat (first | refine blk_drewN ?_ _ | refine blk_drew ?_ | refine blk_alloc ?_ _)); exact BK107.out)) : gb119 ≠ gb107)); have n11_ := Aside0.mk ((by rw [hg]; exact Nat.ne_of_lt (blk_lt (g := gb113) (o := .cells #[.int .i64 t111, .int .i64 t112] 26 (0, 0)) (by (with_reducible repeat (first | refine blk_drewN ?_ _ | refine blk_drew ?_ | refine blk_alloc ?_ _)); exact BK113.out)) : gb113 ≠ gb119)); have n12_ := Aside0.mk ((by rw [hg]; exact Nat.ne_of_gt (blk_lt (g := gb113) (o := .cells #[.int .i64 t111, .int .i64 t112] 26 (0, 0)) (by (with_reducible repeat (first | refine blk_drewN ?_ _ | refine blk_drew ?_ | refine blk_alloc ?_ _)); exact BK113.out)) : gb119 ≠ gb113)); clear HO104; clear HO110; clear HO116; clear BK107; clear BK113; clear HB; have HO104 := n0_; have HO110 := n1_; have HO116 := n2_; have BK107 := n3_; have BK113 := n4_; have HB := n5_; have BK119 := n6_; have GW119 := n7_; have GE119 := n8_; have NB107_119 := n9_; have NB119_107 := n10_; have NB113_119 := n11_; have NB119_113 := n12_; clear n0_ n1_ n2_ n3_ n4_ n5_ n6_ n7_ n8_ n9_ n10_ n11_ n12_; clear hb hbox hg; have hnb21 := NB119_107.out; have hnc21 := NB107_119.out; have hnb22 := NB119_113.out; have hnc22 := NB113_119.out; have hcz23_0 : w20.cell? ⟨gb119, 0, none⟩ = some (.int .i64 0) := (blk_cell BK119.out 0).trans rfl; have hcz23_1 : w20.cell? ⟨gb119, 1, none⟩ = some (.int .i64 0) := (blk_cell BK119.out 1).trans rfl; have hfz23_0 := blk_frozen BK119.out 0; have hfz23_1 := blk_frozen BK119.out 1))
        repeat (go_quiet (fail); try go_wp2)
        (try simp only [Act.put, List.setIfInBounds_toArray, List.set_cons_zero, List.set_cons_succ])
        go_cut [40] (fun v40 wc => ∃ (kq : Nat) (x40_10 : Bool), v40 = .bool x40_10 ∧ Aside0 (topiaristlaw01_LexRow.j0 kq a0 t102 t108 t114 x40_10 t105 t106 t111 t112 t117 t118 = some r) ∧ Aside0 (kq ≤ k) ∧ Aside0 (Kd.R k36 36 wc w.heap.size (fun k_ => some k_ ≠ (v109 : Value).ownBlock ∧ some k_ ≠ (v115 : Value).ownBlock) v103 t102) ∧ Aside0 (Kd.R k36 36 wc w.heap.size (fun k_ => some k_ ≠ (v103 : Value).ownBlock ∧ some k_ ≠ (v115 : Value).ownBlock) v109 t108) ∧ Aside0 (Kd.R k36 36 wc w.heap.size (fun k_ => some k_ ≠ (v103 : Value).ownBlock ∧ some k_ ≠ (v109 : Value).ownBlock) v115 t114) ∧ Aside0 (wc.heap[gb107]? = some (.cells #[.int .i64 t105, .int .i64 t106] 26 (0, 0))) ∧ Aside0 (wc.heap[gb113]? = some (.cells #[.int .i64 t111, .int .i64 t112] 26 (0, 0))) ∧ Aside0 (wc.heap[gb119]? = some (.cells #[.int .i64 t117, .int .i64 t118] 26 (0, 0))) ∧ Aside0 (Below w.heap.size w wc))
        case first =>
          have H := HC11.out
          clear HC11
          have H' := Aside0.mk H
          clear H
          have hnb24 := NB107_113.out
          have hnc24 := NB113_107.out
          have hnb25 := NB107_119.out
          have hnc25 := NB119_107.out
          have hcz26_0 : w20.cell? ⟨gb107, 0, none⟩ = some (.int .i64 t105) := (blk_cell BK107.out 0).trans rfl
          have hcz26_1 : w20.cell? ⟨gb107, 1, none⟩ = some (.int .i64 t106) := (blk_cell BK107.out 1).trans rfl
          have hfz26_0 := blk_frozen BK107.out 0
          have hfz26_1 := blk_frozen BK107.out 1
          go_wp2
          repeat (go_quiet (fail); try go_wp2)
          go_meet
          case rel => exact ⟨_, ((t105 != 0)), (by first | rfl | (simp; done) | (simp [*]; done)), H', ⟨by first | omega | exact Nat.le_refl _⟩, ⟨by (with_reducible repeat (first | apply Kd.R_alloc | apply Kd.R_drewN | apply Kd.R_drew)); exact Kd.R_mono (Kd.R_far (p := ⟨gb119, 1, none⟩) (Kd.R_far (p := ⟨gb119, 0, none⟩) (Kd.R_types HO104.out BK119.out (by decide)) (fun _ hk => hk.2) (.int .i64 t117)) (fun _ hk => hk.2) (.int .i64 t118)) (fun _ hk => ⟨hk.1.1.2, hk.1.2⟩)⟩, ⟨by (with_reducible repeat (first | apply Kd.R_alloc | apply Kd.R_drewN | apply Kd.R_drew)); exact Kd.R_mono (Kd.R_far (p := ⟨gb119, 1, none⟩) (Kd.R_far (p := ⟨gb119, 0, none⟩) (Kd.R_types HO110.out BK119.out (by decide)) (fun _ hk => hk.2) (.int .i64 t117)) (fun _ hk => hk.2) (.int .i64 t118)) (fun _ hk => ⟨hk.1.1.2, hk.1.2⟩)⟩, ⟨by (with_reducible repeat (first | apply Kd.R_alloc | apply Kd.R_drewN | apply Kd.R_drew)); exact Kd.R_mono (Kd.R_far (p := ⟨gb119, 1, none⟩) (Kd.R_far (p := ⟨gb119, 0, none⟩) (Kd.R_types HO116.out BK119.out (by decide)) (fun _ hk => hk.2) (.int .i64 t117)) (fun _ hk => hk.2) (.int .i64 t118)) (fun _ hk => ⟨hk.1.1.2, hk.1.2⟩)⟩, ⟨by (with_reducible repeat (first | refine blk_drewN ?_ _ | refine blk_drew ?_ | refine blk_alloc ?_ _)); refine blk_far ?_ NB107_119.out _; (with_reducible repeat (first | refine blk_drewN ?_ _ | refine blk_drew ?_ | refine blk_alloc ?_ _)); refine blk_far ?_ NB107_119.out _; (with_reducible repeat (first | refine blk_drewN ?_ _ | refine blk_drew ?_ | refine blk_alloc ?_ _)); exact BK107.out⟩, ⟨by (with_reducible repeat (first | refine blk_drewN ?_ _ | refine blk_drew ?_ | refine blk_alloc ?_ _)); refine blk_far ?_ NB113_119.out _; (with_reducible repeat (first | refine blk_drewN ?_ _ | refine blk_drew ?_ | refine blk_alloc ?_ _)); refine blk_far ?_ NB113_119.out _; (with_reducible repeat (first | refine blk_drewN ?_ _ | refine blk_drew ?_ | refine blk_alloc ?_ _)); exact BK113.out⟩, ⟨by (with_reducible repeat (first | refine blk_drewN ?_ _ | refine blk_drew ?_ | refine blk_alloc ?_ _)); refine blk_put (cs := #[.int .i64 t117, .int .i64 0]) ?_ 1 _ rfl; (with_reducible repeat (first | refine blk_drewN ?_ _ | refine blk_drew ?_ | refine blk_alloc ?_ _)); refine blk_put (cs := #[.int .i64 0, .int .i64 0]) ?_ 0 _ rfl; (with_reducible repeat (first | refine blk_drewN ?_ _ | refine blk_drew ?_ | refine blk_alloc ?_ _)); exact BK119.out⟩, ⟨by repeat (first | (with_reducible first | exact HB.out | apply below_alloc | apply pw_below_drewN | apply below_drew1 | refine below_set ?_ GE107.out | refine below_set ?_ GE113.out | refine below_set ?_ GE119.out) | exact HB.out)⟩⟩
        case rest =>
          clear HC11
          try clear c1
          try clear c2
          try clear p2
          try clear c3
          try clear c3b0
          try clear c5
          try clear p6
          try clear c8
          try clear c8b0
          try clear c8b1
          try clear c8b2
          try clear c9
          try clear c9b0
          try clear c9b1
          try clear c9b2
          try clear c17
          try clear c21
          try clear c22
          try clear c24
          try clear c25
          try clear hcz14_0
          try clear hcz14_1
          try clear hcz18_0
          try clear hcz18_1
          try clear hcz23_0
          try clear hcz23_1
          try clear hcz26_0
          try clear hcz26_1
          try clear hfz14_0
          try clear hfz14_1
          try clear hfz18_0
          try clear hfz18_1
          try clear hfz23_0
          try clear hfz23_1
          try clear hfz26_0
          try clear hfz26_1
          obtain ⟨kq, x40_10, rfl, HA, HJ10, HO_5, HO_7, HO_9, BK107, BK113, BK119, HB⟩ := hcut
          cases kq with
          | zero => exact absurd HA.out (by simp [topiaristlaw01_LexRow.j0])
          | succ kj10 =>
            have H := HA.out
            clear HA
            simp only [topiaristlaw01_LexRow.j0] at H
            by_cases c27 : x40_10 = true
            · subst c27
              have H1 : (if (t117 == t105 && (t118 == t106)) = true then (if (t114.length : Int) = 0 then ((topiaristlaw01_wakes.f).bind fun t120 => (some t120)) else (some false)) else (some false)) = some r := by rw [if_pos rfl] at H; exact H
              clear H
              have H := H1
              clear H1
              by_cases c28 : (t117 == t105 && (t118 == t106)) = true
              · rw [if_pos c28] at H
                have c28b0 : (t117 == t105 && (t118 == t106)) = true := c28
                (try (have c28b1 : decide (t117 = t105 && (t118 == t106)) = true := by simpa using c28))
                (try (have c28b2 : (t117 == t105 && (t118 == t106)) = true := by simpa using c28))
                clear c28
                by_cases c29 : (t114.length : Int) = 0
                · rw [if_pos c29] at H
                  have c29b0 : ((t114.length : Int) == 0) = true := beq_iff_eq.mpr c29
                  have c29b1 : ((t114.length : Int) != 0) = false := bne_eq_false_iff_eq.mpr c29
                  clear c29
                  replace H := Option.bind_eq_some_iff.mp H
                  obtain ⟨t120, A300, H⟩ := H
                  replace H : (some t120) = some r := H
                  have A30 := Aside0.mk A300
                  clear A300
                  obtain rfl := Option.some.inj H
                  have hnb31 := NB119_107.out
                  have hnc31 := NB107_119.out
                  have hnb32 := NB119_113.out
                  have hnc32 := NB113_119.out
                  have hcz33_0 : wc.cell? ⟨gb119, 0, none⟩ = some (.int .i64 t117) := (blk_cell BK119.out 0).trans rfl
                  have hcz33_1 : wc.cell? ⟨gb119, 1, none⟩ = some (.int .i64 t118) := (blk_cell BK119.out 1).trans rfl
                  have hfz33_0 := blk_frozen BK119.out 0
                  have hfz33_1 := blk_frozen BK119.out 1
                  have hnb34 := NB107_113.out
                  have hnc34 := NB113_107.out
                  have hcz35_0 : wc.cell? ⟨gb107, 0, none⟩ = some (.int .i64 t105) := (blk_cell BK107.out 0).trans rfl
                  have hcz35_1 : wc.cell? ⟨gb107, 1, none⟩ = some (.int .i64 t106) := (blk_cell BK107.out 1).trans rfl
                  have hfz35_0 := blk_frozen BK107.out 0
                  have hfz35_1 := blk_frozen BK107.out 1
                  obtain ⟨Ao36, co36, eo36⟩ := Kd.R_slice HO_9.out
                  subst eo36
                  go_wp2_with (first | (go_at_call 9; (with_reducible refine (topiaristlaw01_wakes.calls  t120 _ A30.out).mono ?_); rintro e w37 ⟨rfl, hb⟩; have n0_ := Aside0.mk (Kd.R_below (by (with_reducible repeat (first | apply Kd.R_alloc | apply Kd.R_drewN | apply Kd.R_drew)); exact HO_5.out) hb); have n1_ := Aside0.mk (Kd.R_below (by (with_reducible repeat (first | apply Kd.R_alloc | apply Kd.R_drewN | apply Kd.R_drew)); exact HO_7.out) hb); have n2_ := Aside0.mk (Kd.R_below (by (with_reducible repeat (first | apply Kd.R_alloc | apply Kd.R_drewN | apply Kd.R_drew)); exact HO_9.out) hb); have n3_ := Aside0.mk (blk_below (g := gb107) (o := .cells #[.int .i64 t105, .int .i64 t106] 26 (0, 0)) (by (with_reducible repeat (first | refine blk_drewN ?_ _ | refine blk_drew ?_ | refine blk_alloc ?_ _)); exact BK107.out) hb); have n4_ := Aside0.mk (blk_below (g := gb113) (o := .cells #[.int .i64 t111, .int .i64 t112] 26 (0, 0)) (by (with_reducible repeat (first | refine blk_drewN ?_ _ | refine blk_drew ?_ | refine blk_alloc ?_ _)); exact BK113.out) hb); have n5_ := Aside0.mk (blk_below (g := gb119) (o := .cells #[.int .i64 t117, .int .i64 t118] 26 (0, 0)) (by (with_reducible repeat (first | refine blk_drewN ?_ _ | refine blk_drew ?_ | refine blk_alloc ?_ _)); exact BK119.out) hb); have n6_ := Aside0.mk (below_step (by repeat (first | (with_reducible first | exact HB.out | apply below_alloc | apply pw_below_drewN | apply below_drew1 | refine below_set ?_ GE107.out | refine below_set ?_ GE113.out | refine below_set ?_ GE119.out) | exact HB.out)) hb); clear HO_5; clear HO_7; clear HO_9; clear BK107; clear BK113; clear BK119; clear HB; have HO_5 := n0_; have HO_7 := n1_; have HO_9 := n2_; have BK107 := n3_; have BK113 := n4_; have BK119 := n5_; have HB := n6_; clear n0_ n1_ n2_ n3_ n4_ n5_ n6_; (try clear hb); (try clear hb2); (try clear hk); (try clear hi)))
                  repeat (go_quiet (fail); try go_wp2)
                  go_ret
                  exact ⟨by first | rfl | (simp [errW_none, errW_some] <;> rfl) | (simp [*, errW_none, errW_some] <;> rfl), by repeat (first | (with_reducible first | exact HB.out | apply below_alloc | apply pw_below_drewN | apply below_drew1 | refine below_set ?_ GE107.out | refine below_set ?_ GE113.out | refine below_set ?_ GE119.out) | exact HB.out)⟩
                · rw [if_neg c29] at H
                  have c29b0 : ((t114.length : Int) == 0) = false := beq_eq_false_iff_ne.mpr c29
                  have c29b1 : ((t114.length : Int) != 0) = true := bne_iff_ne.mpr c29
                  have c29b2 : ¬ (t114 = []) := fun h_ => c29 (by rw [h_]; rfl)
                  obtain rfl := Option.some.inj H
                  have hnb38 := NB119_107.out
                  have hnc38 := NB107_119.out
                  have hnb39 := NB119_113.out
                  have hnc39 := NB113_119.out
                  have hcz40_0 : wc.cell? ⟨gb119, 0, none⟩ = some (.int .i64 t117) := (blk_cell BK119.out 0).trans rfl
                  have hcz40_1 : wc.cell? ⟨gb119, 1, none⟩ = some (.int .i64 t118) := (blk_cell BK119.out 1).trans rfl
                  have hfz40_0 := blk_frozen BK119.out 0
                  have hfz40_1 := blk_frozen BK119.out 1
                  have hnb41 := NB107_113.out
                  have hnc41 := NB113_107.out
                  have hcz42_0 : wc.cell? ⟨gb107, 0, none⟩ = some (.int .i64 t105) := (blk_cell BK107.out 0).trans rfl
                  have hcz42_1 : wc.cell? ⟨gb107, 1, none⟩ = some (.int .i64 t106) := (blk_cell BK107.out 1).trans rfl
                  have hfz42_0 := blk_frozen BK107.out 0
                  have hfz42_1 := blk_frozen BK107.out 1
                  obtain ⟨Ao43, co43, eo43⟩ := Kd.R_slice HO_9.out
                  subst eo43
                  go_wp2
                  repeat (go_quiet (fail); try go_wp2)
                  go_ret
                  exact ⟨by first | rfl | (simp [errW_none, errW_some] <;> rfl) | (simp [*, errW_none, errW_some] <;> rfl), by repeat (first | (with_reducible first | exact HB.out | apply below_alloc | apply pw_below_drewN | apply below_drew1 | refine below_set ?_ GE107.out | refine below_set ?_ GE113.out | refine below_set ?_ GE119.out) | exact HB.out)⟩
              · rw [if_neg c28] at H
                have c28b0 : (t117 == t105 && (t118 == t106)) = false := by simpa using c28
                (try (have c28b1 : decide (t117 = t105 && (t118 == t106)) = false := by simpa using c28))
                (try (have c28b2 : (t117 == t105 && (t118 == t106)) = false := by simpa using c28))
                (try (have c28b3 : ¬ (t117 = t105 && (t118 == t106)) := by simpa using c28))
                clear c28
                obtain rfl := Option.some.inj H
                have hnb44 := NB119_107.out
                have hnc44 := NB107_119.out
                have hnb45 := NB119_113.out
                have hnc45 := NB113_119.out
                have hcz46_0 : wc.cell? ⟨gb119, 0, none⟩ = some (.int .i64 t117) := (blk_cell BK119.out 0).trans rfl
                have hcz46_1 : wc.cell? ⟨gb119, 1, none⟩ = some (.int .i64 t118) := (blk_cell BK119.out 1).trans rfl
                have hfz46_0 := blk_frozen BK119.out 0
                have hfz46_1 := blk_frozen BK119.out 1
                have hnb47 := NB107_113.out
                have hnc47 := NB113_107.out
                have hcz48_0 : wc.cell? ⟨gb107, 0, none⟩ = some (.int .i64 t105) := (blk_cell BK107.out 0).trans rfl
                have hcz48_1 : wc.cell? ⟨gb107, 1, none⟩ = some (.int .i64 t106) := (blk_cell BK107.out 1).trans rfl
                have hfz48_0 := blk_frozen BK107.out 0
                have hfz48_1 := blk_frozen BK107.out 1
                go_wp2
                repeat (go_quiet (fail); try go_wp2)
                go_ret
                exact ⟨by first | rfl | (simp [errW_none, errW_some] <;> rfl) | (simp [*, errW_none, errW_some] <;> rfl), by repeat (first | (with_reducible first | exact HB.out | apply below_alloc | apply pw_below_drewN | apply below_drew1 | refine below_set ?_ GE107.out | refine below_set ?_ GE113.out | refine below_set ?_ GE119.out) | exact HB.out)⟩
            · replace c27 := Bool.eq_false_iff.mpr c27
              subst c27
              have H1 : (if t111 = 0 then (if t117 = 0 then (topiaristlaw01_LexRow.j1 kj10 a0 t102 t108 t114 ((t114.length : Int) != (wrap64 ((t102.length : Int) + (t108.length : Int))))) else (topiaristlaw01_LexRow.j1 kj10 a0 t102 t108 t114 true)) else (if (t117 == t111 && (t118 == (wrap64 ((wrap64 (t112 + (a0.size : Int))) + 1)))) = true then (if (t114.length : Int) = 0 then ((topiaristlaw01_wakes.f).bind fun t121 => (some t121)) else (some false)) else (some false))) = some r := by rw [if_neg (show ¬ (false = true) by decide)] at H; exact H
              clear H
              have H := H1
              clear H1
              by_cases c49 : t111 = 0
              · rw [if_pos c49] at H
                have c49b0 : (t111 == 0) = true := beq_iff_eq.mpr c49
                have c49b1 : (t111 != 0) = false := bne_eq_false_iff_eq.mpr c49
                clear c49
                have HC50 := Aside0.mk H
                clear H
                have hnb51 := NB113_107.out
                have hnc51 := NB107_113.out
                have hnb52 := NB113_119.out
                have hnc52 := NB119_113.out
                have hcz53_0 : wc.cell? ⟨gb113, 0, none⟩ = some (.int .i64 t111) := (blk_cell BK113.out 0).trans rfl
                have hcz53_1 : wc.cell? ⟨gb113, 1, none⟩ = some (.int .i64 t112) := (blk_cell BK113.out 1).trans rfl
                have hfz53_0 := blk_frozen BK113.out 0
                have hfz53_1 := blk_frozen BK113.out 1
                go_upto_region 10 with (fail)
                repeat (go_quiet (fail); go_upto_region 10 with (fail))
                go_cut [86] (fun v86 wc => ∃ (kq : Nat) (x86_49 : Bool), v86 = .bool x86_49 ∧ Aside0 (topiaristlaw01_LexRow.j1 kq a0 t102 t108 t114 x86_49 = some r) ∧ Aside0 (kq ≤ kj10) ∧ Aside0 (Kd.R k36 36 wc w.heap.size (fun k_ => some k_ ≠ (v109 : Value).ownBlock ∧ some k_ ≠ (v115 : Value).ownBlock) v103 t102) ∧ Aside0 (Kd.R k36 36 wc w.heap.size (fun k_ => some k_ ≠ (v103 : Value).ownBlock ∧ some k_ ≠ (v115 : Value).ownBlock) v109 t108) ∧ Aside0 (Kd.R k36 36 wc w.heap.size (fun k_ => some k_ ≠ (v103 : Value).ownBlock ∧ some k_ ≠ (v109 : Value).ownBlock) v115 t114) ∧ Aside0 (wc.heap[gb107]? = some (.cells #[.int .i64 t105, .int .i64 t106] 26 (0, 0))) ∧ Aside0 (wc.heap[gb113]? = some (.cells #[.int .i64 t111, .int .i64 t112] 26 (0, 0))) ∧ Aside0 (wc.heap[gb119]? = some (.cells #[.int .i64 t117, .int .i64 t118] 26 (0, 0))) ∧ Aside0 (Below w.heap.size w wc))
                case first =>
                  have H := HC50.out
                  clear HC50
                  by_cases c54 : t117 = 0
                  · rw [if_pos c54] at H
                    have c54b0 : (t117 == 0) = true := beq_iff_eq.mpr c54
                    have c54b1 : (t117 != 0) = false := bne_eq_false_iff_eq.mpr c54
                    clear c54
                    (first | rw [c54b0] | (simp only [i64_w, i32_w]; rw [c54b0]) | skip)
                    have H' := Aside0.mk H
                    clear H
                    have hnb55 := NB119_107.out
                    have hnc55 := NB107_119.out
                    have hnb56 := NB119_113.out
                    have hnc56 := NB113_119.out
                    have hcz57_0 : wc.cell? ⟨gb119, 0, none⟩ = some (.int .i64 t117) := (blk_cell BK119.out 0).trans rfl
                    have hcz57_1 : wc.cell? ⟨gb119, 1, none⟩ = some (.int .i64 t118) := (blk_cell BK119.out 1).trans rfl
                    have hfz57_0 := blk_frozen BK119.out 0
                    have hfz57_1 := blk_frozen BK119.out 1
                    obtain ⟨Ao58, co58, eo58⟩ := Kd.R_slice HO_9.out
                    subst eo58
                    obtain ⟨Ao59, co59, eo59⟩ := Kd.R_slice HO_5.out
                    subst eo59
                    obtain ⟨Ao60, co60, eo60⟩ := Kd.R_slice HO_7.out
                    subst eo60
                    go_wp2
                    repeat (go_quiet (fail); try go_wp2)
                    go_meet
                    case rel => exact ⟨_, (((t114.length : Int) != (wrap64 ((t102.length : Int) + (t108.length : Int))))), (by first | rfl | (simp; done) | (simp [*]; done)), H', ⟨by have := HJ10.out; first | omega | exact Nat.le_refl _⟩, ⟨by (with_reducible repeat (first | apply Kd.R_alloc | apply Kd.R_drewN | apply Kd.R_drew)); exact HO_5.out⟩, ⟨by (with_reducible repeat (first | apply Kd.R_alloc | apply Kd.R_drewN | apply Kd.R_drew)); exact HO_7.out⟩, ⟨by (with_reducible repeat (first | apply Kd.R_alloc | apply Kd.R_drewN | apply Kd.R_drew)); exact HO_9.out⟩, ⟨by (with_reducible repeat (first | refine blk_drewN ?_ _ | refine blk_drew ?_ | refine blk_alloc ?_ _)); exact BK107.out⟩, ⟨by (with_reducible repeat (first | refine blk_drewN ?_ _ | refine blk_drew ?_ | refine blk_alloc ?_ _)); exact BK113.out⟩, ⟨by (with_reducible repeat (first | refine blk_drewN ?_ _ | refine blk_drew ?_ | refine blk_alloc ?_ _)); exact BK119.out⟩, ⟨by repeat (first | (with_reducible first | exact HB.out | apply below_alloc | apply pw_below_drewN | apply below_drew1 | refine below_set ?_ GE107.out | refine below_set ?_ GE113.out | refine below_set ?_ GE119.out) | exact HB.out)⟩⟩
                  · rw [if_neg c54] at H
                    have c54b0 : (t117 == 0) = false := beq_eq_false_iff_ne.mpr c54
                    have c54b1 : (t117 != 0) = true := bne_iff_ne.mpr c54
                    (first | rw [c54b0] | (simp only [i64_w, i32_w]; rw [c54b0]) | skip)
                    have H' := Aside0.mk H
                    clear H
                    have hnb61 := NB119_107.out
                    have hnc61 := NB107_119.out
                    have hnb62 := NB119_113.out
                    have hnc62 := NB113_119.out
                    have hcz63_0 : wc.cell? ⟨gb119, 0, none⟩ = some (.int .i64 t117) := (blk_cell BK119.out 0).trans rfl
                    have hcz63_1 : wc.cell? ⟨gb119, 1, none⟩ = some (.int .i64 t118) := (blk_cell BK119.out 1).trans rfl
                    have hfz63_0 := blk_frozen BK119.out 0
                    have hfz63_1 := blk_frozen BK119.out 1
                    go_wp2
                    repeat (go_quiet (fail); try go_wp2)
                    go_meet
                    case rel => exact ⟨_, (true), (by first | rfl | (simp; done) | (simp [*]; done)), H', ⟨by have := HJ10.out; first | omega | exact Nat.le_refl _⟩, ⟨by (with_reducible repeat (first | apply Kd.R_alloc | apply Kd.R_drewN | apply Kd.R_drew)); exact HO_5.out⟩, ⟨by (with_reducible repeat (first | apply Kd.R_alloc | apply Kd.R_drewN | apply Kd.R_drew)); exact HO_7.out⟩, ⟨by (with_reducible repeat (first | apply Kd.R_alloc | apply Kd.R_drewN | apply Kd.R_drew)); exact HO_9.out⟩, ⟨by (with_reducible repeat (first | refine blk_drewN ?_ _ | refine blk_drew ?_ | refine blk_alloc ?_ _)); exact BK107.out⟩, ⟨by (with_reducible repeat (first | refine blk_drewN ?_ _ | refine blk_drew ?_ | refine blk_alloc ?_ _)); exact BK113.out⟩, ⟨by (with_reducible repeat (first | refine blk_drewN ?_ _ | refine blk_drew ?_ | refine blk_alloc ?_ _)); exact BK119.out⟩, ⟨by repeat (first | (with_reducible first | exact HB.out | apply below_alloc | apply pw_below_drewN | apply below_drew1 | refine below_set ?_ GE107.out | refine below_set ?_ GE113.out | refine below_set ?_ GE119.out) | exact HB.out)⟩⟩
                case rest =>
                  clear HC50
                  try clear c1
                  try clear c2
                  try clear p2
                  try clear c3
                  try clear c3b0
                  try clear c4
                  try clear c5
                  try clear c6
                  try clear p6
                  try clear c8
                  try clear c8b0
                  try clear c8b1
                  try clear c8b2
                  try clear c9
                  try clear c9b0
                  try clear c9b1
                  try clear c9b2
                  try clear c17
                  try clear c21
                  try clear c22
                  try clear c24
                  try clear c25
                  try clear c27
                  try clear c28
                  try clear c28b0
                  try clear c28b1
                  try clear c28b2
                  try clear c29
                  try clear c29b0
                  try clear c29b1
                  try clear c29b2
                  try clear c31
                  try clear c32
                  try clear c34
                  try clear c38
                  try clear c39
                  try clear c41
                  try clear c44
                  try clear c45
                  try clear c47
                  try clear c49
                  try clear c49b0
                  try clear c49b1
                  try clear c51
                  try clear c52
                  try clear c54
                  try clear c54b0
                  try clear c54b1
                  try clear c55
                  try clear c56
                  try clear c61
                  try clear c62
                  try clear hcz14_0
                  try clear hcz14_1
                  try clear hcz18_0
                  try clear hcz18_1
                  try clear hcz23_0
                  try clear hcz23_1
                  try clear hcz26_0
                  try clear hcz26_1
                  try clear hcz33_0
                  try clear hcz33_1
                  try clear hcz35_0
                  try clear hcz35_1
                  try clear hcz40_0
                  try clear hcz40_1
                  try clear hcz42_0
                  try clear hcz42_1
                  try clear hcz46_0
                  try clear hcz46_1
                  try clear hcz48_0
                  try clear hcz48_1
                  try clear hcz53_0
                  try clear hcz53_1
                  try clear hcz57_0
                  try clear hcz57_1
                  try clear hcz63_0
                  try clear hcz63_1
                  try clear hfz14_0
                  try clear hfz14_1
                  try clear hfz18_0
                  try clear hfz18_1
                  try clear hfz23_0
                  try clear hfz23_1
                  try clear hfz26_0
                  try clear hfz26_1
                  try clear hfz33_0
                  try clear hfz33_1
                  try clear hfz35_0
                  try clear hfz35_1
                  try clear hfz40_0
                  try clear hfz40_1
                  try clear hfz42_0
                  try clear hfz42_1
                  try clear hfz46_0
                  try clear hfz46_1
                  try clear hfz48_0
                  try clear hfz48_1
                  try clear hfz53_0
                  try clear hfz53_1
                  try clear hfz57_0
                  try clear hfz57_1
                  try clear hfz63_0
                  try clear hfz63_1
                  try clear p2
                  try clear p6
                  obtain ⟨kq, x86_49, rfl, HA, HJ49, HO_5, HO_7, HO_9, BK107, BK113, BK119, HB⟩ := hcut
                  cases kq with
                  | zero => exact absurd HA.out (by simp [topiaristlaw01_LexRow.j1])
                  | succ kj49 =>
                    have H := HA.out
                    clear HA
                    simp only [topiaristlaw01_LexRow.j1] at H
                    by_cases c64 : x86_49 = true
                    · subst c64
                      have H1 : (some false) = some r := by rw [if_pos rfl] at H; exact H
                      clear H
                      have H := H1
                      clear H1
                      obtain rfl := Option.some.inj H
                      go_wp2
                      repeat (go_quiet (fail); try go_wp2)
                      go_ret
                      exact ⟨by first | rfl | (simp [errW_none, errW_some] <;> rfl) | (simp [*, errW_none, errW_some] <;> rfl), by repeat (first | (with_reducible first | exact HB.out | apply below_alloc | apply pw_below_drewN | apply below_drew1 | refine below_set ?_ GE107.out | refine below_set ?_ GE113.out | refine below_set ?_ GE119.out) | exact HB.out)⟩
                    · replace c64 := Bool.eq_false_iff.mpr c64
                      subst c64
                      have H1 : (topiaristlaw01_LexRow.l0 kj49 a0 t102 t108 t114 0) = some r := by rw [if_neg (show ¬ (false = true) by decide)] at H; exact H
                      clear H
                      have H := H1
                      clear H1
                      have H' := Aside0.mk H
                      clear H
                      go_wp2
                      repeat (go_quiet (fail); try go_wp2)
                      go_loopg [11] kj49 (fun kq v11 w' => ∃ (x11_3 : Int), v11 = .int .i64 x11_3 ∧ Aside0 (topiaristlaw01_LexRow.l0 kq a0 t102 t108 t114 x11_3 = some r) ∧ Aside0 (kq ≤ kj49) ∧ Aside0 (Kd.R k36 36 w' w.heap.size (fun k_ => some k_ ≠ (v109 : Value).ownBlock ∧ some k_ ≠ (v115 : Value).ownBlock) v103 t102) ∧ Aside0 (Kd.R k36 36 w' w.heap.size (fun k_ => some k_ ≠ (v103 : Value).ownBlock ∧ some k_ ≠ (v115 : Value).ownBlock) v109 t108) ∧ Aside0 (Kd.R k36 36 w' w.heap.size (fun k_ => some k_ ≠ (v103 : Value).ownBlock ∧ some k_ ≠ (v109 : Value).ownBlock) v115 t114) ∧ Aside0 (w'.heap[gb107]? = some (.cells #[.int .i64 t105, .int .i64 t106] 26 (0, 0))) ∧ Aside0 (w'.heap[gb113]? = some (.cells #[.int .i64 t111, .int .i64 t112] 26 (0, 0))) ∧ Aside0 (w'.heap[gb119]? = some (.cells #[.int .i64 t117, .int .i64 t118] 26 (0, 0))) ∧ Aside0 (Below w.heap.size w w'))
                      case atStart => exact ⟨(0), (by first | rfl | (simp; done) | (simp [*]; done)), H', ⟨Nat.le_refl _⟩, ⟨by (with_reducible repeat (first | apply Kd.R_alloc | apply Kd.R_drewN | apply Kd.R_drew)); exact HO_5.out⟩, ⟨by (with_reducible repeat (first | apply Kd.R_alloc | apply Kd.R_drewN | apply Kd.R_drew)); exact HO_7.out⟩, ⟨by (with_reducible repeat (first | apply Kd.R_alloc | apply Kd.R_drewN | apply Kd.R_drew)); exact HO_9.out⟩, ⟨by (with_reducible repeat (first | refine blk_drewN ?_ _ | refine blk_drew ?_ | refine blk_alloc ?_ _)); exact BK107.out⟩, ⟨by (with_reducible repeat (first | refine blk_drewN ?_ _ | refine blk_drew ?_ | refine blk_alloc ?_ _)); exact BK113.out⟩, ⟨by (with_reducible repeat (first | refine blk_drewN ?_ _ | refine blk_drew ?_ | refine blk_alloc ?_ _)); exact BK119.out⟩, ⟨by repeat (first | (with_reducible first | exact HB.out | apply below_alloc | apply pw_below_drewN | apply below_drew1 | refine below_set ?_ GE107.out | refine below_set ?_ GE113.out | refine below_set ?_ GE119.out) | exact HB.out)⟩⟩
                      case round =>
                        clear H'
                        try clear c1
                        try clear c2
                        try clear p2
                        try clear c3
                        try clear c3b0
                        try clear c4
                        try clear c5
                        try clear c6
                        try clear p6
                        try clear c8
                        try clear c8b0
                        try clear c8b1
                        try clear c8b2
                        try clear c9
                        try clear c9b0
                        try clear c9b1
                        try clear c9b2
                        try clear c17
                        try clear c21
                        try clear c22
                        try clear c24
                        try clear c25
                        try clear c27
                        try clear c28
                        try clear c28b0
                        try clear c28b1
                        try clear c28b2
                        try clear c29
                        try clear c29b0
                        try clear c29b1
                        try clear c29b2
                        try clear c31
                        try clear c32
                        try clear c34
                        try clear c38
                        try clear c39
                        try clear c41
                        try clear c44
                        try clear c45
                        try clear c47
                        try clear c49
                        try clear c49b0
                        try clear c49b1
                        try clear c51
                        try clear c52
                        try clear c54
                        try clear c54b0
                        try clear c54b1
                        try clear c55
                        try clear c56
                        try clear c61
                        try clear c62
                        try clear c64
                        try clear p64
                        try clear hcz14_0
                        try clear hcz14_1
                        try clear hcz18_0
                        try clear hcz18_1
                        try clear hcz23_0
                        try clear hcz23_1
                        try clear hcz26_0
                        try clear hcz26_1
                        try clear hcz33_0
                        try clear hcz33_1
                        try clear hcz35_0
                        try clear hcz35_1
                        try clear hcz40_0
                        try clear hcz40_1
                        try clear hcz42_0
                        try clear hcz42_1
                        try clear hcz46_0
                        try clear hcz46_1
                        try clear hcz48_0
                        try clear hcz48_1
                        try clear hcz53_0
                        try clear hcz53_1
                        try clear hcz57_0
                        try clear hcz57_1
                        try clear hcz63_0
                        try clear hcz63_1
                        try clear hfz14_0
                        try clear hfz14_1
                        try clear hfz18_0
                        try clear hfz18_1
                        try clear hfz23_0
                        try clear hfz23_1
                        try clear hfz26_0
                        try clear hfz26_1
                        try clear hfz33_0
                        try clear hfz33_1
                        try clear hfz35_0
                        try clear hfz35_1
                        try clear hfz40_0
                        try clear hfz40_1
                        try clear hfz42_0
                        try clear hfz42_1
                        try clear hfz46_0
                        try clear hfz46_1
                        try clear hfz48_0
                        try clear hfz48_1
                        try clear hfz53_0
                        try clear hfz53_1
                        try clear hfz57_0
                        try clear hfz57_1
                        try clear hfz63_0
                        try clear hfz63_1
                        try clear p2
                        try clear p6
                        obtain ⟨x11_3, rfl, HA, HK3, HO_5, HO_7, HO_9, BK107, BK113, BK119, HB⟩ := hrel
                        cases gk with
                        | zero => exact absurd HA.out (by simp [topiaristlaw01_LexRow.l0])
                        | succ k3 =>
                          have H := HA.out
                          clear HA
                          simp only [topiaristlaw01_LexRow.l0] at H
                          have HC65 := Aside0.mk H
                          clear H
                          go_upto_region 13 with (fail)
                          repeat (go_quiet (fail); go_upto_region 13 with (fail))
                          go_cut [90] (fun v90 wc => ∃ (kq : Nat) (x90_64 : Bool), v90 = .bool x90_64 ∧ Aside0 (topiaristlaw01_LexRow.j3 kq a0 t102 t108 t114 x11_3 x90_64 = some r) ∧ Aside0 (kq ≤ k3) ∧ Aside0 (Kd.R k36 36 wc w.heap.size (fun k_ => some k_ ≠ (v109 : Value).ownBlock ∧ some k_ ≠ (v115 : Value).ownBlock) v103 t102) ∧ Aside0 (Kd.R k36 36 wc w.heap.size (fun k_ => some k_ ≠ (v103 : Value).ownBlock ∧ some k_ ≠ (v115 : Value).ownBlock) v109 t108) ∧ Aside0 (Kd.R k36 36 wc w.heap.size (fun k_ => some k_ ≠ (v103 : Value).ownBlock ∧ some k_ ≠ (v109 : Value).ownBlock) v115 t114) ∧ Aside0 (wc.heap[gb107]? = some (.cells #[.int .i64 t105, .int .i64 t106] 26 (0, 0))) ∧ Aside0 (wc.heap[gb113]? = some (.cells #[.int .i64 t111, .int .i64 t112] 26 (0, 0))) ∧ Aside0 (wc.heap[gb119]? = some (.cells #[.int .i64 t117, .int .i64 t118] 26 (0, 0))) ∧ Aside0 (Below w.heap.size w wc))
                          case first =>
                            have H := HC65.out
                            clear HC65
                            have H' := Aside0.mk H
                            clear H
                            obtain ⟨Ao66, co66, eo66⟩ := Kd.R_slice HO_9.out
                            subst eo66
                            go_wp2
                            repeat (go_quiet (fail); try go_wp2)
                            go_meet
                            case rel => exact ⟨_, (decide (x11_3 < (t114.length : Int))), (by first | rfl | (simp; done) | (simp [*]; done)), H', ⟨by have := HJ10.out; have := HJ49.out; have := HK3.out; first | omega | exact Nat.le_refl _⟩, ⟨by (with_reducible repeat (first | apply Kd.R_alloc | apply Kd.R_drewN | apply Kd.R_drew)); exact HO_5.out⟩, ⟨by (with_reducible repeat (first | apply Kd.R_alloc | apply Kd.R_drewN | apply Kd.R_drew)); exact HO_7.out⟩, ⟨by (with_reducible repeat (first | apply Kd.R_alloc | apply Kd.R_drewN | apply Kd.R_drew)); exact HO_9.out⟩, ⟨by (with_reducible repeat (first | refine blk_drewN ?_ _ | refine blk_drew ?_ | refine blk_alloc ?_ _)); exact BK107.out⟩, ⟨by (with_reducible repeat (first | refine blk_drewN ?_ _ | refine blk_drew ?_ | refine blk_alloc ?_ _)); exact BK113.out⟩, ⟨by (with_reducible repeat (first | refine blk_drewN ?_ _ | refine blk_drew ?_ | refine blk_alloc ?_ _)); exact BK119.out⟩, ⟨by repeat (first | (with_reducible first | exact HB.out | apply below_alloc | apply pw_below_drewN | apply below_drew1 | refine below_set ?_ GE107.out | refine below_set ?_ GE113.out | refine below_set ?_ GE119.out) | exact HB.out)⟩⟩
                          case rest =>
                            clear HC65
                            try clear c1
                            try clear c2
                            try clear p2
                            try clear c3
                            try clear c3b0
                            try clear c4
                            try clear c5
                            try clear c6
                            try clear p6
                            try clear c8
                            try clear c8b0
                            try clear c8b1
                            try clear c8b2
                            try clear c9
                            try clear c9b0
                            try clear c9b1
                            try clear c9b2
                            try clear c17
                            try clear c21
                            try clear c22
                            try clear c24
                            try clear c25
                            try clear c27
                            try clear c28
                            try clear c28b0
                            try clear c28b1
                            try clear c28b2
                            try clear c29
                            try clear c29b0
                            try clear c29b1
                            try clear c29b2
                            try clear c31
                            try clear c32
                            try clear c34
                            try clear c38
                            try clear c39
                            try clear c41
                            try clear c44
                            try clear c45
                            try clear c47
                            try clear c49
                            try clear c49b0
                            try clear c49b1
                            try clear c51
                            try clear c52
                            try clear c54
                            try clear c54b0
                            try clear c54b1
                            try clear c55
                            try clear c56
                            try clear c61
                            try clear c62
                            try clear c64
                            try clear p64
                            try clear hcz14_0
                            try clear hcz14_1
                            try clear hcz18_0
                            try clear hcz18_1
                            try clear hcz23_0
                            try clear hcz23_1
                            try clear hcz26_0
                            try clear hcz26_1
                            try clear hcz33_0
                            try clear hcz33_1
                            try clear hcz35_0
                            try clear hcz35_1
                            try clear hcz40_0
                            try clear hcz40_1
                            try clear hcz42_0
                            try clear hcz42_1
                            try clear hcz46_0
                            try clear hcz46_1
                            try clear hcz48_0
                            try clear hcz48_1
                            try clear hcz53_0
                            try clear hcz53_1
                            try clear hcz57_0
                            try clear hcz57_1
                            try clear hcz63_0
                            try clear hcz63_1
                            try clear hfz14_0
                            try clear hfz14_1
                            try clear hfz18_0
                            try clear hfz18_1
                            try clear hfz23_0
                            try clear hfz23_1
                            try clear hfz26_0
                            try clear hfz26_1
                            try clear hfz33_0
                            try clear hfz33_1
                            try clear hfz35_0
                            try clear hfz35_1
                            try clear hfz40_0
                            try clear hfz40_1
                            try clear hfz42_0
                            try clear hfz42_1
                            try clear hfz46_0
                            try clear hfz46_1
                            try clear hfz48_0
                            try clear hfz48_1
                            try clear hfz53_0
                            try clear hfz53_1
                            try clear hfz57_0
                            try clear hfz57_1
                            try clear hfz63_0
                            try clear hfz63_1
                            try clear p2
                            try clear p6
                            try clear p64
                            obtain ⟨kq, x90_64, rfl, HA, HJ64, HO_5, HO_7, HO_9, BK107, BK113, BK119, HB⟩ := hcut
                            cases kq with
                            | zero => exact absurd HA.out (by simp [topiaristlaw01_LexRow.j3])
                            | succ kj64 =>
                              have H := HA.out
                              clear HA
                              simp only [topiaristlaw01_LexRow.j3] at H
                              by_cases c67 : x90_64 = true
                              · subst c67
                                have H1 : (if x11_3 < (t102.length : Int) then (if 0 ≤ x11_3 then (if x11_3 < (t114.length : Int) then (if (!(((rd_T36 t114 x11_3).f0) == ((rd_T36 t102 x11_3).f0)) || (!((((rd_T36 t114 x11_3).f1).toList) == (((rd_T36 t102 x11_3).f1).toList)) || (!(((rd_T36 t114 x11_3).f2) == ((rd_T36 t102 x11_3).f2))))) = true then (some false) else (topiaristlaw01_LexRow.l0 kj64 a0 t102 t108 t114 (wrap64 (x11_3 + 1)))) else (none)) else (none)) else (if 0 ≤ (wrap64 (x11_3 - (t102.length : Int))) then (if (wrap64 (x11_3 - (t102.length : Int))) < (t108.length : Int) then (if 0 ≤ x11_3 then (if x11_3 < (t114.length : Int) then (if (!(((rd_T36 t114 x11_3).f0) == ((rd_T36 t108 (wrap64 (x11_3 - (t102.length : Int)))).f0)) || (!((((rd_T36 t114 x11_3).f1).toList) == (((rd_T36 t108 (wrap64 (x11_3 - (t102.length : Int)))).f1).toList)) || (!(((rd_T36 t114 x11_3).f2) == (wrap64 (((rd_T36 t108 (wrap64 (x11_3 - (t102.length : Int)))).f2) + (wrap64 ((a0.size : Int) + 1)))))))) = true then (some false) else (topiaristlaw01_LexRow.l0 kj64 a0 t102 t108 t114 (wrap64 (x11_3 + 1)))) else (none)) else (none)) else (none)) else (none))) = some r := by rw [if_pos rfl] at H; exact H
                                clear H
                                have H := H1
                                clear H1
                                by_cases c68 : x11_3 < (t102.length : Int)
                                · rw [if_pos c68] at H
                                  have c68b0 : decide (x11_3 < (t102.length : Int)) = true := decide_eq_true c68
                                  clear c68
                                  by_cases c69 : 0 ≤ x11_3
                                  · rw [if_pos c69] at H
                                    have c69b0 : decide (0 ≤ x11_3) = true := decide_eq_true c69
                                    clear c69
                                    by_cases c70 : x11_3 < (t114.length : Int)
                                    · rw [if_pos c70] at H
                                      have c70b0 : decide (x11_3 < (t114.length : Int)) = true := decide_eq_true c70
                                      clear c70
                                      by_cases c71 : (!(((rd_T36 t114 x11_3).f0) == ((rd_T36 t102 x11_3).f0)) || (!((((rd_T36 t114 x11_3).f1).toList) == (((rd_T36 t102 x11_3).f1).toList)) || (!(((rd_T36 t114 x11_3).f2) == ((rd_T36 t102 x11_3).f2))))) = true
                                      · rw [if_pos c71] at H
                                        have c71b0 : (!(((rd_T36 t114 x11_3).f0) == ((rd_T36 t102 x11_3).f0)) || (!((((rd_T36 t114 x11_3).f1).toList) == (((rd_T36 t102 x11_3).f1).toList)) || (!(((rd_T36 t114 x11_3).f2) == ((rd_T36 t102 x11_3).f2))))) = true := c71
                                        clear c71
                                        obtain rfl := Option.some.inj H
                                        go_wp2_with (first | ((with_reducible refine gate_dst (N := 12) rfl ?_); (try (refine gate_guard (by rfl) ?_; dsimp only)); refine box_event ?hg (N := 12) ?hd (cs := #[.int .i64 0, .string (⟨#[]⟩ : ByteArray), .int .i64 0]) (t := 36) ?hr ?_; (case hd => rfl); (case hg => rfl); (case hr => first | (go_simp; done) | (go_simp; rfl)); intro gb123 hg w72 hbox hb; have FHO_5_123 := Aside0.mk (newer HO_5.out hg); have FHO_9_123 := Aside0.mk (newer HO_9.out hg); have n0_ := Aside0.mk (Kd.R_below (Kd.R_elderB (by (with_reducible repeat (first | apply Kd.R_alloc | apply Kd.R_drewN | apply Kd.R_drew)); exact HO_5.out) gb123 (Nat.le_of_eq hg.symm)) hb); have n1_ := Aside0.mk (Kd.R_below (Kd.R_elderB (by (with_reducible repeat (first | apply Kd.R_alloc | apply Kd.R_drewN | apply Kd.R_drew)); exact HO_7.out) gb123 (Nat.le_of_eq hg.symm)) hb); have n2_ := Aside0.mk (Kd.R_below (Kd.R_elderB (by (with_reducible repeat (first | apply Kd.R_alloc | apply Kd.R_drewN | apply Kd.R_drew)); exact HO_9.out) gb123 (Nat.le_of_eq hg.symm)) hb); have n3_ := Aside0.mk (blk_below (g := gb107) (o := .cells #[.int .i64 t105, .int .i64 t106] 26 (0, 0)) (by (with_reducible repeat (first | refine blk_drewN ?_ _ | refine blk_drew ?_ | refine blk_alloc ?_ _)); exact BK107.out) hb); have n4_ := Aside0.mk (blk_below (g := gb113) (o := .cells #[.int .i64 t111, .int .i64 t112] 26 (0, 0)) (by (with_reducible repeat (first | refine blk_drewN ?_ _ | refine blk_drew ?_ | refine blk_alloc ?_ _)); exact BK113.out) hb); have n5_ := Aside0.mk (blk_below (g := gb119) (o := .cells #[.int .i64 t117, .int .i64 t118] 26 (0, 0)) (by (with_reducible repeat (first | refine blk_drewN ?_ _ | refine blk_drew ?_ | refine blk_alloc ?_ _)); exact BK119.out) hb); have n6_ := Aside0.mk (below_step (by repeat (first | (with_reducible first | exact HB.out | apply below_alloc | apply pw_below_drewN | apply below_drew1 | refine below_set ?_ GE107.out | refine below_set ?_ GE113.out | refine below_set ?_ GE119.out) | exact HB.out)) hb); have n7_ := Aside0.mk (hbox); have n8_ := Aside0.mk ((by rw [hg]; exact (below_size (by repeat (first | (with_reducible first | exact HB.out | apply below_alloc | apply pw_below_drewN | apply below_drew1 | refine below_set ?_ GE107.out | refine below_set ?_ GE113.out | refine below_set ?_ GE119.out) | exact HB.out))) : w.heap.size ≤ gb123)); have n9_ := Aside0.mk ((by rw [hg]; exact (below_size (by repeat (first | (with_reducible first | exact HB.out | apply below_alloc | apply pw_below_drewN | apply below_drew1 | refine below_set ?_ GE107.out | refine below_set ?_ GE113.out | refine below_set ?_ GE119.out) | exact HB.out))) : w.heap.size ≤ gb123)); have n10_ := Aside0.mk ((by rw [hg]; exact Nat.ne_of_lt (blk_lt (g := gb107) (o := .cells #[.int .i64 t105, .int .i64 t106] 26 (0, 0)) (by (with_reducible repeat (first | refine blk_drewN ?_ _ | refine blk_drew ?_ | refine blk_alloc ?_ _)); exact BK107.out)) : gb107 ≠ gb123)); have n11_ := Aside0.mk ((by rw [hg]; exact Nat.ne_of_gt (blk_lt (g := gb107) (o := .cells #[.int .i64 t105, .int .i64 t106] 26 (0, 0)) (by (with_reducible repeat (first | refine blk_drewN ?_ _ | refine blk_drew ?_ | refine blk_alloc ?_ _)); exact BK107.out)) : gb123 ≠ gb107)); have n12_ := Aside0.mk ((by rw [hg]; exact Nat.ne_of_lt (blk_lt (g := gb113) (o := .cells #[.int .i64 t111, .int .i64 t112] 26 (0, 0)) (by (with_reducible repeat (first | refine blk_drewN ?_ _ | refine blk_drew ?_ | refine blk_alloc ?_ _)); exact BK113.out)) : gb113 ≠ gb123)); have n13_ := Aside0.mk ((by rw [hg]; exact Nat.ne_of_gt (blk_lt (g := gb113) (o := .cells #[.int .i64 t111, .int .i64 t112] 26 (0, 0)) (by (with_reducible repeat (first | refine blk_drewN ?_ _ | refine blk_drew ?_ | refine blk_alloc ?_ _)); exact BK113.out)) : gb123 ≠ gb113)); have n14_ := Aside0.mk ((by rw [hg]; exact Nat.ne_of_lt (blk_lt (g := gb119) (o := .cells #[.int .i64 t117, .int .i64 t118] 26 (0, 0)) (by (with_reducible repeat (first | refine blk_drewN ?_ _ | refine blk_drew ?_ | refine blk_alloc ?_ _)); exact BK119.out)) : gb119 ≠ gb123)); have n15_ := Aside0.mk ((by rw [hg]; exact Nat.ne_of_gt (blk_lt (g := gb119) (o := .cells #[.int .i64 t117, .int .i64 t118] 26 (0, 0)) (by (with_reducible repeat (first | refine blk_drewN ?_ _ | refine blk_drew ?_ | refine blk_alloc ?_ _)); exact BK119.out)) : gb123 ≠ gb119)); clear HO_5; clear HO_7; clear HO_9; clear BK107; clear BK113; clear BK119; clear HB; have HO_5 := n0_; have HO_7 := n1_; have HO_9 := n2_; have BK107 := n3_; have BK113 := n4_; have BK119 := n5_; have HB := n6_; have BK123 := n7_; have GW123 := n8_; have GE123 := n9_; have NB107_123 := n10_; have NB123_107 := n11_; have NB113_123 := n12_; have NB123_113 := n13_; have NB119_123 := n14_; have NB123_119 := n15_; clear n0_ n1_ n2_ n3_ n4_ n5_ n6_ n7_ n8_ n9_ n10_ n11_ n12_ n13_ n14_ n15_; clear hb hbox hg; have hnb73 := NB123_107.out; have hnc73 := NB107_123.out; have hnb74 := NB123_113.out; have hnc74 := NB113_123.out; have hnb75 := NB123_119.out; have hnc75 := NB119_123.out; have hcz76_0 : w72.cell? ⟨gb123, 0, none⟩ = some (.int .i64 0) := (blk_cell BK123.out 0).trans rfl; have hcz76_1 : w72.cell? ⟨gb123, 1, none⟩ = some (.string (⟨#[]⟩ : ByteArray)) := (blk_cell BK123.out 1).trans rfl; have hcz76_2 : w72.cell? ⟨gb123, 2, none⟩ = some (.int .i64 0) := (blk_cell BK123.out 2).trans rfl; have hfz76_0 := blk_frozen BK123.out 0; have hfz76_1 := blk_frozen BK123.out 1; have hfz76_2 := blk_frozen BK123.out 2; obtain ⟨Ao77, co77, eo77⟩ := Kd.R_slice HO_5.out; subst eo77; have p124 : 0 ≤ (x11_3 : Int) := of_decide_eq_true (by first | (with_reducible assumption) | assumption); have q124 : x11_3 < (t102.length : Int) := of_decide_eq_true (by first | (with_reducible assumption) | assumption); obtain ⟨ad124, e124, hx124_0, hx124_1, hx124_2⟩ := at_T36 (Kd.R_reads' HO_5.out).2.2 x11_3 p124 q124; cases e124; have hn124_0 : ad124.block ≠ gb123 := FHO_5_123.out _ rfl; have hn124_1 : ad124.block ≠ gb123 := FHO_5_123.out _ rfl; have hn124_2 : ad124.block ≠ gb123 := FHO_5_123.out _ rfl; replace hx124_0 := (cell_far (p := ⟨gb123, 0, none⟩) (by first | (rw [add_block]; exact hn124_0) | (show (Addr.add _ _).block ≠ _; rw [add_block]; exact hn124_0) | exact hn124_0) (.int .i64 0)).trans hx124_0; replace hx124_1 := (cell_far (p := ⟨gb123, 0, none⟩) (by first | (rw [add_block]; exact hn124_0) | (show (Addr.add _ _).block ≠ _; rw [add_block]; exact hn124_0) | exact hn124_0) (.int .i64 0)).trans hx124_1; replace hx124_2 := (cell_far (p := ⟨gb123, 0, none⟩) (by first | (rw [add_block]; exact hn124_0) | (show (Addr.add _ _).block ≠ _; rw [add_block]; exact hn124_0) | exact hn124_0) (.int .i64 0)).trans hx124_2; replace hx124_0 := (cell_far (p := ⟨gb123, 1, none⟩) (by first | (rw [add_block]; exact hn124_1) | (show (Addr.add _ _).block ≠ _; rw [add_block]; exact hn124_1) | exact hn124_1) (.string (⟨#[]⟩ : ByteArray))).trans hx124_0; replace hx124_1 := (cell_far (p := ⟨gb123, 1, none⟩) (by first | (rw [add_block]; exact hn124_1) | (show (Addr.add _ _).block ≠ _; rw [add_block]; exact hn124_1) | exact hn124_1) (.string (⟨#[]⟩ : ByteArray))).trans hx124_1; replace hx124_2 := (cell_far (p := ⟨gb123, 1, none⟩) (by first | (rw [add_block]; exact hn124_1) | (show (Addr.add _ _).block ≠ _; rw [add_block]; exact hn124_1) | exact hn124_1) (.string (⟨#[]⟩ : ByteArray))).trans hx124_2; replace hx124_0 := (cell_far (p := ⟨gb123, 2, none⟩) (by first | (rw [add_block]; exact hn124_2) | (show (Addr.add _ _).block ≠ _; rw [add_block]; exact hn124_2) | exact hn124_2) (.int .i64 0)).trans hx124_0; replace hx124_1 := (cell_far (p := ⟨gb123, 2, none⟩) (by first | (rw [add_block]; exact hn124_2) | (show (Addr.add _ _).block ≠ _; rw [add_block]; exact hn124_2) | exact hn124_2) (.int .i64 0)).trans hx124_1; replace hx124_2 := (cell_far (p := ⟨gb123, 2, none⟩) (by first | (rw [add_block]; exact hn124_2) | (show (Addr.add _ _).block ≠ _; rw [add_block]; exact hn124_2) | exact hn124_2) (.int .i64 0)).trans hx124_2; have hy124_0 := fun (n_ : Nat) => cell_shift (W' := ((((w72.drewN n_).setCell ⟨gb123, 0, none⟩ (.int .i64 0)).setCell ⟨gb123, 1, none⟩ (.string (⟨#[]⟩ : ByteArray))).setCell ⟨gb123, 2, none⟩ (.int .i64 0))) (by simp only [set_drewN, World.heap_drewN]) hx124_0; have hy124_1 := fun (n_ : Nat) => cell_shift (W' := ((((w72.drewN n_).setCell ⟨gb123, 0, none⟩ (.int .i64 0)).setCell ⟨gb123, 1, none⟩ (.string (⟨#[]⟩ : ByteArray))).setCell ⟨gb123, 2, none⟩ (.int .i64 0))) (by simp only [set_drewN, World.heap_drewN]) hx124_1; have hy124_2 := fun (n_ : Nat) => cell_shift (W' := ((((w72.drewN n_).setCell ⟨gb123, 0, none⟩ (.int .i64 0)).setCell ⟨gb123, 1, none⟩ (.string (⟨#[]⟩ : ByteArray))).setCell ⟨gb123, 2, none⟩ (.int .i64 0))) (by simp only [set_drewN, World.heap_drewN]) hx124_2; clear hn124_0; clear hn124_1; clear hn124_2; replace p124 := eq_true p124; replace q124 := eq_true q124; obtain ⟨Ao78, co78, eo78⟩ := Kd.R_slice HO_9.out; subst eo78; have p125 : 0 ≤ (x11_3 : Int) := of_decide_eq_true (by first | (with_reducible assumption) | assumption); have q125 : x11_3 < (t114.length : Int) := of_decide_eq_true (by first | (with_reducible assumption) | assumption); obtain ⟨ad125, e125, hx125_0, hx125_1, hx125_2⟩ := at_T36 (Kd.R_reads' HO_9.out).2.2 x11_3 p125 q125; cases e125; have hn125_0 : ad125.block ≠ gb123 := FHO_9_123.out _ rfl; have hn125_1 : ad125.block ≠ gb123 := FHO_9_123.out _ rfl; have hn125_2 : ad125.block ≠ gb123 := FHO_9_123.out _ rfl; have hn125_3 : ad125.block ≠ gb123 := FHO_9_123.out _ rfl; have hn125_4 : ad125.block ≠ gb123 := FHO_9_123.out _ rfl; have hn125_5 : ad125.block ≠ gb123 := FHO_9_123.out _ rfl; replace hx125_0 := (cell_far (p := ⟨gb123, 0, none⟩) (by first | (rw [add_block]; exact hn125_0) | (show (Addr.add _ _).block ≠ _; rw [add_block]; exact hn125_0) | exact hn125_0) (.int .i64 0)).trans hx125_0; replace hx125_1 := (cell_far (p := ⟨gb123, 0, none⟩) (by first | (rw [add_block]; exact hn125_0) | (show (Addr.add _ _).block ≠ _; rw [add_block]; exact hn125_0) | exact hn125_0) (.int .i64 0)).trans hx125_1; replace hx125_2 := (cell_far (p := ⟨gb123, 0, none⟩) (by first | (rw [add_block]; exact hn125_0) | (show (Addr.add _ _).block ≠ _; rw [add_block]; exact hn125_0) | exact hn125_0) (.int .i64 0)).trans hx125_2; replace hx125_0 := (cell_far (p := ⟨gb123, 1, none⟩) (by first | (rw [add_block]; exact hn125_1) | (show (Addr.add _ _).block ≠ _; rw [add_block]; exact hn125_1) | exact hn125_1) (.string (⟨#[]⟩ : ByteArray))).trans hx125_0; replace hx125_1 := (cell_far (p := ⟨gb123, 1, none⟩) (by first | (rw [add_block]; exact hn125_1) | (show (Addr.add _ _).block ≠ _; rw [add_block]; exact hn125_1) | exact hn125_1) (.string (⟨#[]⟩ : ByteArray))).trans hx125_1; replace hx125_2 := (cell_far (p := ⟨gb123, 1, none⟩) (by first | (rw [add_block]; exact hn125_1) | (show (Addr.add _ _).block ≠ _; rw [add_block]; exact hn125_1) | exact hn125_1) (.string (⟨#[]⟩ : ByteArray))).trans hx125_2; replace hx125_0 := (cell_far (p := ⟨gb123, 2, none⟩) (by first | (rw [add_block]; exact hn125_2) | (show (Addr.add _ _).block ≠ _; rw [add_block]; exact hn125_2) | exact hn125_2) (.int .i64 0)).trans hx125_0; replace hx125_1 := (cell_far (p := ⟨gb123, 2, none⟩) (by first | (rw [add_block]; exact hn125_2) | (show (Addr.add _ _).block ≠ _; rw [add_block]; exact hn125_2) | exact hn125_2) (.int .i64 0)).trans hx125_1; replace hx125_2 := (cell_far (p := ⟨gb123, 2, none⟩) (by first | (rw [add_block]; exact hn125_2) | (show (Addr.add _ _).block ≠ _; rw [add_block]; exact hn125_2) | exact hn125_2) (.int .i64 0)).trans hx125_2; replace hx125_0 := (cell_far (p := ⟨gb123, 0, none⟩) (by first | (rw [add_block]; exact hn125_3) | (show (Addr.add _ _).block ≠ _; rw [add_block]; exact hn125_3) | exact hn125_3) (.int .i64 ((rd_T36 t102 x11_3).f0))).trans hx125_0; replace hx125_1 := (cell_far (p := ⟨gb123, 0, none⟩) (by first | (rw [add_block]; exact hn125_3) | (show (Addr.add _ _).block ≠ _; rw [add_block]; exact hn125_3) | exact hn125_3) (.int .i64 ((rd_T36 t102 x11_3).f0))).trans hx125_1; replace hx125_2 := (cell_far (p := ⟨gb123, 0, none⟩) (by first | (rw [add_block]; exact hn125_3) | (show (Addr.add _ _).block ≠ _; rw [add_block]; exact hn125_3) | exact hn125_3) (.int .i64 ((rd_T36 t102 x11_3).f0))).trans hx125_2; replace hx125_0 := (cell_far (p := ⟨gb123, 1, none⟩) (by first | (rw [add_block]; exact hn125_4) | (show (Addr.add _ _).block ≠ _; rw [add_block]; exact hn125_4) | exact hn125_4) (.string ((rd_T36 t102 x11_3).f1))).trans hx125_0; replace hx125_1 := (cell_far (p := ⟨gb123, 1, none⟩) (by first | (rw [add_block]; exact hn125_4) | (show (Addr.add _ _).block ≠ _; rw [add_block]; exact hn125_4) | exact hn125_4) (.string ((rd_T36 t102 x11_3).f1))).trans hx125_1; replace hx125_2 := (cell_far (p := ⟨gb123, 1, none⟩) (by first | (rw [add_block]; exact hn125_4) | (show (Addr.add _ _).block ≠ _; rw [add_block]; exact hn125_4) | exact hn125_4) (.string ((rd_T36 t102 x11_3).f1))).trans hx125_2; replace hx125_0 := (cell_far (p := ⟨gb123, 2, none⟩) (by first | (rw [add_block]; exact hn125_5) | (show (Addr.add _ _).block ≠ _; rw [add_block]; exact hn125_5) | exact hn125_5) (.int .i64 ((rd_T36 t102 x11_3).f2))).trans hx125_0; replace hx125_1 := (cell_far (p := ⟨gb123, 2, none⟩) (by first | (rw [add_block]; exact hn125_5) | (show (Addr.add _ _).block ≠ _; rw [add_block]; exact hn125_5) | exact hn125_5) (.int .i64 ((rd_T36 t102 x11_3).f2))).trans hx125_1; replace hx125_2 := (cell_far (p := ⟨gb123, 2, none⟩) (by first | (rw [add_block]; exact hn125_5) | (show (Addr.add _ _).block ≠ _; rw [add_block]; exact hn125_5) | exact hn125_5) (.int .i64 ((rd_T36 t102 x11_3).f2))).trans hx125_2; have hy125_0 := fun (n_ : Nat) => cell_shift (W' := (((((((w72.drewN n_).setCell ⟨gb123, 0, none⟩ (.int .i64 0)).setCell ⟨gb123, 1, none⟩ (.string (⟨#[]⟩ : ByteArray))).setCell ⟨gb123, 2, none⟩ (.int .i64 0)).setCell ⟨gb123, 0, none⟩ (.int .i64 ((rd_T36 t102 x11_3).f0))).setCell ⟨gb123, 1, none⟩ (.string ((rd_T36 t102 x11_3).f1))).setCell ⟨gb123, 2, none⟩ (.int .i64 ((rd_T36 t102 x11_3).f2)))) (by simp only [set_drewN, World.heap_drewN]) hx125_0; have hy125_1 := fun (n_ : Nat) => cell_shift (W' := (((((((w72.drewN n_).setCell ⟨gb123, 0, none⟩ (.int .i64 0)).setCell ⟨gb123, 1, none⟩ (.string (⟨#[]⟩ : ByteArray))).setCell ⟨gb123, 2, none⟩ (.int .i64 0)).setCell ⟨gb123, 0, none⟩ (.int .i64 ((rd_T36 t102 x11_3).f0))).setCell ⟨gb123, 1, none⟩ (.string ((rd_T36 t102 x11_3).f1))).setCell ⟨gb123, 2, none⟩ (.int .i64 ((rd_T36 t102 x11_3).f2)))) (by simp only [set_drewN, World.heap_drewN]) hx125_1; have hy125_2 := fun (n_ : Nat) => cell_shift (W' := (((((((w72.drewN n_).setCell ⟨gb123, 0, none⟩ (.int .i64 0)).setCell ⟨gb123, 1, none⟩ (.string (⟨#[]⟩ : ByteArray))).setCell ⟨gb123, 2, none⟩ (.int .i64 0)).setCell ⟨gb123, 0, none⟩ (.int .i64 ((rd_T36 t102 x11_3).f0))).setCell ⟨gb123, 1, none⟩ (.string ((rd_T36 t102 x11_3).f1))).setCell ⟨gb123, 2, none⟩ (.int .i64 ((rd_T36 t102 x11_3).f2)))) (by simp only [set_drewN, World.heap_drewN]) hx125_2; clear hn125_0; clear hn125_1; clear hn125_2; clear hn125_3; clear hn125_4; clear hn125_5; replace p125 := eq_true p125; replace q125 := eq_true q125))
                                        have BKc := (blk_put (cs' := #[.int .i64 (rd_T36 t102 x11_3).f0, .string (rd_T36 t102 x11_3).f1, .int .i64 (rd_T36 t102 x11_3).f2]) (blk_put (cs' := #[.int .i64 (rd_T36 t102 x11_3).f0, .string (rd_T36 t102 x11_3).f1, .int .i64 0]) (blk_put (cs' := #[.int .i64 (rd_T36 t102 x11_3).f0, .string (⟨#[]⟩ : ByteArray), .int .i64 0]) (blk_put (cs' := #[.int .i64 0, .string (⟨#[]⟩ : ByteArray), .int .i64 0]) (blk_put (cs' := #[.int .i64 0, .string (⟨#[]⟩ : ByteArray), .int .i64 0]) (blk_put (cs' := #[.int .i64 0, .string (⟨#[]⟩ : ByteArray), .int .i64 0]) BK123.out 0 (.int .i64 0) rfl) 1 (.string (⟨#[]⟩ : ByteArray)) rfl) 2 (.int .i64 0) rfl) 0 (.int .i64 (rd_T36 t102 x11_3).f0) rfl) 1 (.string (rd_T36 t102 x11_3).f1) rfl) 2 (.int .i64 (rd_T36 t102 x11_3).f2) rfl)
                                        have hv0 := (blk_cell BKc 0).trans rfl
                                        have hv1 := (blk_cell BKc 1).trans rfl
                                        have hv2 := (blk_cell BKc 2).trans rfl
                                        repeat (go_quiet (fail); try go_wp2)
                                        go_ret
                                        exact ⟨by first | rfl | (simp [errW_none, errW_some] <;> rfl) | (simp [*, errW_none, errW_some] <;> rfl), by repeat (first | (with_reducible first | exact HB.out | apply below_alloc | apply pw_below_drewN | apply below_drew1 | refine below_set ?_ GE107.out | refine below_set ?_ GE113.out | refine below_set ?_ GE119.out | refine below_set ?_ GE123.out) | exact HB.out)⟩
                                      · rw [if_neg c71] at H
                                        have c71b0 : (!(((rd_T36 t114 x11_3).f0) == ((rd_T36 t102 x11_3).f0)) || (!((((rd_T36 t114 x11_3).f1).toList) == (((rd_T36 t102 x11_3).f1).toList)) || (!(((rd_T36 t114 x11_3).f2) == ((rd_T36 t102 x11_3).f2))))) = false := by simpa using c71
                                        clear c71
                                        have H' := Aside0.mk H
                                        clear H
                                        go_wp2_with (first | ((with_reducible refine gate_dst (N := 12) rfl ?_); (try (refine gate_guard (by rfl) ?_; dsimp only)); refine box_event ?hg (N := 12) ?hd (cs := #[.int .i64 0, .string (⟨#[]⟩ : ByteArray), .int .i64 0]) (t := 36) ?hr ?_; (case hd => rfl); (case hg => rfl); (case hr => first | (go_simp; done) | (go_simp; rfl)); intro gb123 hg w79 hbox hb; have FHO_5_123 := Aside0.mk (newer HO_5.out hg); have FHO_9_123 := Aside0.mk (newer HO_9.out hg); have n0_ := Aside0.mk (Kd.R_below (Kd.R_elderB (by (with_reducible repeat (first | apply Kd.R_alloc | apply Kd.R_drewN | apply Kd.R_drew)); exact HO_5.out) gb123 (Nat.le_of_eq hg.symm)) hb); have n1_ := Aside0.mk (Kd.R_below (Kd.R_elderB (by (with_reducible repeat (first | apply Kd.R_alloc | apply Kd.R_drewN | apply Kd.R_drew)); exact HO_7.out) gb123 (Nat.le_of_eq hg.symm)) hb); have n2_ := Aside0.mk (Kd.R_below (Kd.R_elderB (by (with_reducible repeat (first | apply Kd.R_alloc | apply Kd.R_drewN | apply Kd.R_drew)); exact HO_9.out) gb123 (Nat.le_of_eq hg.symm)) hb); have n3_ := Aside0.mk (blk_below (g := gb107) (o := .cells #[.int .i64 t105, .int .i64 t106] 26 (0, 0)) (by (with_reducible repeat (first | refine blk_drewN ?_ _ | refine blk_drew ?_ | refine blk_alloc ?_ _)); exact BK107.out) hb); have n4_ := Aside0.mk (blk_below (g := gb113) (o := .cells #[.int .i64 t111, .int .i64 t112] 26 (0, 0)) (by (with_reducible repeat (first | refine blk_drewN ?_ _ | refine blk_drew ?_ | refine blk_alloc ?_ _)); exact BK113.out) hb); have n5_ := Aside0.mk (blk_below (g := gb119) (o := .cells #[.int .i64 t117, .int .i64 t118] 26 (0, 0)) (by (with_reducible repeat (first | refine blk_drewN ?_ _ | refine blk_drew ?_ | refine blk_alloc ?_ _)); exact BK119.out) hb); have n6_ := Aside0.mk (below_step (by repeat (first | (with_reducible first | exact HB.out | apply below_alloc | apply pw_below_drewN | apply below_drew1 | refine below_set ?_ GE107.out | refine below_set ?_ GE113.out | refine below_set ?_ GE119.out) | exact HB.out)) hb); have n7_ := Aside0.mk (hbox); have n8_ := Aside0.mk ((by rw [hg]; exact (below_size (by repeat (first | (with_reducible first | exact HB.out | apply below_alloc | apply pw_below_drewN | apply below_drew1 | refine below_set ?_ GE107.out | refine below_set ?_ GE113.out | refine below_set ?_ GE119.out) | exact HB.out))) : w.heap.size ≤ gb123)); have n9_ := Aside0.mk ((by rw [hg]; exact (below_size (by repeat (first | (with_reducible first | exact HB.out | apply below_alloc | apply pw_below_drewN | apply below_drew1 | refine below_set ?_ GE107.out | refine below_set ?_ GE113.out | refine below_set ?_ GE119.out) | exact HB.out))) : w.heap.size ≤ gb123)); have n10_ := Aside0.mk ((by rw [hg]; exact Nat.ne_of_lt (blk_lt (g := gb107) (o := .cells #[.int .i64 t105, .int .i64 t106] 26 (0, 0)) (by (with_reducible repeat (first | refine blk_drewN ?_ _ | refine blk_drew ?_ | refine blk_alloc ?_ _)); exact BK107.out)) : gb107 ≠ gb123)); have n11_ := Aside0.mk ((by rw [hg]; exact Nat.ne_of_gt (blk_lt (g := gb107) (o := .cells #[.int .i64 t105, .int .i64 t106] 26 (0, 0)) (by (with_reducible repeat (first | refine blk_drewN ?_ _ | refine blk_drew ?_ | refine blk_alloc ?_ _)); exact BK107.out)) : gb123 ≠ gb107)); have n12_ := Aside0.mk ((by rw [hg]; exact Nat.ne_of_lt (blk_lt (g := gb113) (o := .cells #[.int .i64 t111, .int .i64 t112] 26 (0, 0)) (by (with_reducible repeat (first | refine blk_drewN ?_ _ | refine blk_drew ?_ | refine blk_alloc ?_ _)); exact BK113.out)) : gb113 ≠ gb123)); have n13_ := Aside0.mk ((by rw [hg]; exact Nat.ne_of_gt (blk_lt (g := gb113) (o := .cells #[.int .i64 t111, .int .i64 t112] 26 (0, 0)) (by (with_reducible repeat (first | refine blk_drewN ?_ _ | refine blk_drew ?_ | refine blk_alloc ?_ _)); exact BK113.out)) : gb123 ≠ gb113)); have n14_ := Aside0.mk ((by rw [hg]; exact Nat.ne_of_lt (blk_lt (g := gb119) (o := .cells #[.int .i64 t117, .int .i64 t118] 26 (0, 0)) (by (with_reducible repeat (first | refine blk_drewN ?_ _ | refine blk_drew ?_ | refine blk_alloc ?_ _)); exact BK119.out)) : gb119 ≠ gb123)); have n15_ := Aside0.mk ((by rw [hg]; exact Nat.ne_of_gt (blk_lt (g := gb119) (o := .cells #[.int .i64 t117, .int .i64 t118] 26 (0, 0)) (by (with_reducible repeat (first | refine blk_drewN ?_ _ | refine blk_drew ?_ | refine blk_alloc ?_ _)); exact BK119.out)) : gb123 ≠ gb119)); clear HO_5; clear HO_7; clear HO_9; clear BK107; clear BK113; clear BK119; clear HB; have HO_5 := n0_; have HO_7 := n1_; have HO_9 := n2_; have BK107 := n3_; have BK113 := n4_; have BK119 := n5_; have HB := n6_; have BK123 := n7_; have GW123 := n8_; have GE123 := n9_; have NB107_123 := n10_; have NB123_107 := n11_; have NB113_123 := n12_; have NB123_113 := n13_; have NB119_123 := n14_; have NB123_119 := n15_; clear n0_ n1_ n2_ n3_ n4_ n5_ n6_ n7_ n8_ n9_ n10_ n11_ n12_ n13_ n14_ n15_; clear hb hbox hg; have hnb80 := NB123_107.out; have hnc80 := NB107_123.out; have hnb81 := NB123_113.out; have hnc81 := NB113_123.out; have hnb82 := NB123_119.out; have hnc82 := NB119_123.out; have hcz83_0 : w79.cell? ⟨gb123, 0, none⟩ = some (.int .i64 0) := (blk_cell BK123.out 0).trans rfl; have hcz83_1 : w79.cell? ⟨gb123, 1, none⟩ = some (.string (⟨#[]⟩ : ByteArray)) := (blk_cell BK123.out 1).trans rfl; have hcz83_2 : w79.cell? ⟨gb123, 2, none⟩ = some (.int .i64 0) := (blk_cell BK123.out 2).trans rfl; have hfz83_0 := blk_frozen BK123.out 0; have hfz83_1 := blk_frozen BK123.out 1; have hfz83_2 := blk_frozen BK123.out 2; obtain ⟨Ao84, co84, eo84⟩ := Kd.R_slice HO_5.out; subst eo84; have p124 : 0 ≤ (x11_3 : Int) := of_decide_eq_true (by first | (with_reducible assumption) | assumption); have q124 : x11_3 < (t102.length : Int) := of_decide_eq_true (by first | (with_reducible assumption) | assumption); obtain ⟨ad124, e124, hx124_0, hx124_1, hx124_2⟩ := at_T36 (Kd.R_reads' HO_5.out).2.2 x11_3 p124 q124; cases e124; have hn124_0 : ad124.block ≠ gb123 := FHO_5_123.out _ rfl; have hn124_1 : ad124.block ≠ gb123 := FHO_5_123.out _ rfl; have hn124_2 : ad124.block ≠ gb123 := FHO_5_123.out _ rfl; replace hx124_0 := (cell_far (p := ⟨gb123, 0, none⟩) (by first | (rw [add_block]; exact hn124_0) | (show (Addr.add _ _).block ≠ _; rw [add_block]; exact hn124_0) | exact hn124_0) (.int .i64 0)).trans hx124_0; replace hx124_1 := (cell_far (p := ⟨gb123, 0, none⟩) (by first | (rw [add_block]; exact hn124_0) | (show (Addr.add _ _).block ≠ _; rw [add_block]; exact hn124_0) | exact hn124_0) (.int .i64 0)).trans hx124_1; replace hx124_2 := (cell_far (p := ⟨gb123, 0, none⟩) (by first | (rw [add_block]; exact hn124_0) | (show (Addr.add _ _).block ≠ _; rw [add_block]; exact hn124_0) | exact hn124_0) (.int .i64 0)).trans hx124_2; replace hx124_0 := (cell_far (p := ⟨gb123, 1, none⟩) (by first | (rw [add_block]; exact hn124_1) | (show (Addr.add _ _).block ≠ _; rw [add_block]; exact hn124_1) | exact hn124_1) (.string (⟨#[]⟩ : ByteArray))).trans hx124_0; replace hx124_1 := (cell_far (p := ⟨gb123, 1, none⟩) (by first | (rw [add_block]; exact hn124_1) | (show (Addr.add _ _).block ≠ _; rw [add_block]; exact hn124_1) | exact hn124_1) (.string (⟨#[]⟩ : ByteArray))).trans hx124_1; replace hx124_2 := (cell_far (p := ⟨gb123, 1, none⟩) (by first | (rw [add_block]; exact hn124_1) | (show (Addr.add _ _).block ≠ _; rw [add_block]; exact hn124_1) | exact hn124_1) (.string (⟨#[]⟩ : ByteArray))).trans hx124_2; replace hx124_0 := (cell_far (p := ⟨gb123, 2, none⟩) (by first | (rw [add_block]; exact hn124_2) | (show (Addr.add _ _).block ≠ _; rw [add_block]; exact hn124_2) | exact hn124_2) (.int .i64 0)).trans hx124_0; replace hx124_1 := (cell_far (p := ⟨gb123, 2, none⟩) (by first | (rw [add_block]; exact hn124_2) | (show (Addr.add _ _).block ≠ _; rw [add_block]; exact hn124_2) | exact hn124_2) (.int .i64 0)).trans hx124_1; replace hx124_2 := (cell_far (p := ⟨gb123, 2, none⟩) (by first | (rw [add_block]; exact hn124_2) | (show (Addr.add _ _).block ≠ _; rw [add_block]; exact hn124_2) | exact hn124_2) (.int .i64 0)).trans hx124_2; have hy124_0 := fun (n_ : Nat) => cell_shift (W' := ((((w79.drewN n_).setCell ⟨gb123, 0, none⟩ (.int .i64 0)).setCell ⟨gb123, 1, none⟩ (.string (⟨#[]⟩ : ByteArray))).setCell ⟨gb123, 2, none⟩ (.int .i64 0))) (by simp only [set_drewN, World.heap_drewN]) hx124_0; have hy124_1 := fun (n_ : Nat) => cell_shift (W' := ((((w79.drewN n_).setCell ⟨gb123, 0, none⟩ (.int .i64 0)).setCell ⟨gb123, 1, none⟩ (.string (⟨#[]⟩ : ByteArray))).setCell ⟨gb123, 2, none⟩ (.int .i64 0))) (by simp only [set_drewN, World.heap_drewN]) hx124_1; have hy124_2 := fun (n_ : Nat) => cell_shift (W' := ((((w79.drewN n_).setCell ⟨gb123, 0, none⟩ (.int .i64 0)).setCell ⟨gb123, 1, none⟩ (.string (⟨#[]⟩ : ByteArray))).setCell ⟨gb123, 2, none⟩ (.int .i64 0))) (by simp only [set_drewN, World.heap_drewN]) hx124_2; clear hn124_0; clear hn124_1; clear hn124_2; replace p124 := eq_true p124; replace q124 := eq_true q124; obtain ⟨Ao85, co85, eo85⟩ := Kd.R_slice HO_9.out; subst eo85; have p125 : 0 ≤ (x11_3 : Int) := of_decide_eq_true (by first | (with_reducible assumption) | assumption); have q125 : x11_3 < (t114.length : Int) := of_decide_eq_true (by first | (with_reducible assumption) | assumption); obtain ⟨ad125, e125, hx125_0, hx125_1, hx125_2⟩ := at_T36 (Kd.R_reads' HO_9.out).2.2 x11_3 p125 q125; cases e125; have hn125_0 : ad125.block ≠ gb123 := FHO_9_123.out _ rfl; have hn125_1 : ad125.block ≠ gb123 := FHO_9_123.out _ rfl; have hn125_2 : ad125.block ≠ gb123 := FHO_9_123.out _ rfl; have hn125_3 : ad125.block ≠ gb123 := FHO_9_123.out _ rfl; have hn125_4 : ad125.block ≠ gb123 := FHO_9_123.out _ rfl; have hn125_5 : ad125.block ≠ gb123 := FHO_9_123.out _ rfl; replace hx125_0 := (cell_far (p := ⟨gb123, 0, none⟩) (by first | (rw [add_block]; exact hn125_0) | (show (Addr.add _ _).block ≠ _; rw [add_block]; exact hn125_0) | exact hn125_0) (.int .i64 0)).trans hx125_0; replace hx125_1 := (cell_far (p := ⟨gb123, 0, none⟩) (by first | (rw [add_block]; exact hn125_0) | (show (Addr.add _ _).block ≠ _; rw [add_block]; exact hn125_0) | exact hn125_0) (.int .i64 0)).trans hx125_1; replace hx125_2 := (cell_far (p := ⟨gb123, 0, none⟩) (by first | (rw [add_block]; exact hn125_0) | (show (Addr.add _ _).block ≠ _; rw [add_block]; exact hn125_0) | exact hn125_0) (.int .i64 0)).trans hx125_2; replace hx125_0 := (cell_far (p := ⟨gb123, 1, none⟩) (by first | (rw [add_block]; exact hn125_1) | (show (Addr.add _ _).block ≠ _; rw [add_block]; exact hn125_1) | exact hn125_1) (.string (⟨#[]⟩ : ByteArray))).trans hx125_0; replace hx125_1 := (cell_far (p := ⟨gb123, 1, none⟩) (by first | (rw [add_block]; exact hn125_1) | (show (Addr.add _ _).block ≠ _; rw [add_block]; exact hn125_1) | exact hn125_1) (.string (⟨#[]⟩ : ByteArray))).trans hx125_1; replace hx125_2 := (cell_far (p := ⟨gb123, 1, none⟩) (by first | (rw [add_block]; exact hn125_1) | (show (Addr.add _ _).block ≠ _; rw [add_block]; exact hn125_1) | exact hn125_1) (.string (⟨#[]⟩ : ByteArray))).trans hx125_2; replace hx125_0 := (cell_far (p := ⟨gb123, 2, none⟩) (by first | (rw [add_block]; exact hn125_2) | (show (Addr.add _ _).block ≠ _; rw [add_block]; exact hn125_2) | exact hn125_2) (.int .i64 0)).trans hx125_0; replace hx125_1 := (cell_far (p := ⟨gb123, 2, none⟩) (by first | (rw [add_block]; exact hn125_2) | (show (Addr.add _ _).block ≠ _; rw [add_block]; exact hn125_2) | exact hn125_2) (.int .i64 0)).trans hx125_1; replace hx125_2 := (cell_far (p := ⟨gb123, 2, none⟩) (by first | (rw [add_block]; exact hn125_2) | (show (Addr.add _ _).block ≠ _; rw [add_block]; exact hn125_2) | exact hn125_2) (.int .i64 0)).trans hx125_2; replace hx125_0 := (cell_far (p := ⟨gb123, 0, none⟩) (by first | (rw [add_block]; exact hn125_3) | (show (Addr.add _ _).block ≠ _; rw [add_block]; exact hn125_3) | exact hn125_3) (.int .i64 ((rd_T36 t102 x11_3).f0))).trans hx125_0; replace hx125_1 := (cell_far (p := ⟨gb123, 0, none⟩) (by first | (rw [add_block]; exact hn125_3) | (show (Addr.add _ _).block ≠ _; rw [add_block]; exact hn125_3) | exact hn125_3) (.int .i64 ((rd_T36 t102 x11_3).f0))).trans hx125_1; replace hx125_2 := (cell_far (p := ⟨gb123, 0, none⟩) (by first | (rw [add_block]; exact hn125_3) | (show (Addr.add _ _).block ≠ _; rw [add_block]; exact hn125_3) | exact hn125_3) (.int .i64 ((rd_T36 t102 x11_3).f0))).trans hx125_2; replace hx125_0 := (cell_far (p := ⟨gb123, 1, none⟩) (by first | (rw [add_block]; exact hn125_4) | (show (Addr.add _ _).block ≠ _; rw [add_block]; exact hn125_4) | exact hn125_4) (.string ((rd_T36 t102 x11_3).f1))).trans hx125_0; replace hx125_1 := (cell_far (p := ⟨gb123, 1, none⟩) (by first | (rw [add_block]; exact hn125_4) | (show (Addr.add _ _).block ≠ _; rw [add_block]; exact hn125_4) | exact hn125_4) (.string ((rd_T36 t102 x11_3).f1))).trans hx125_1; replace hx125_2 := (cell_far (p := ⟨gb123, 1, none⟩) (by first | (rw [add_block]; exact hn125_4) | (show (Addr.add _ _).block ≠ _; rw [add_block]; exact hn125_4) | exact hn125_4) (.string ((rd_T36 t102 x11_3).f1))).trans hx125_2; replace hx125_0 := (cell_far (p := ⟨gb123, 2, none⟩) (by first | (rw [add_block]; exact hn125_5) | (show (Addr.add _ _).block ≠ _; rw [add_block]; exact hn125_5) | exact hn125_5) (.int .i64 ((rd_T36 t102 x11_3).f2))).trans hx125_0; replace hx125_1 := (cell_far (p := ⟨gb123, 2, none⟩) (by first | (rw [add_block]; exact hn125_5) | (show (Addr.add _ _).block ≠ _; rw [add_block]; exact hn125_5) | exact hn125_5) (.int .i64 ((rd_T36 t102 x11_3).f2))).trans hx125_1; replace hx125_2 := (cell_far (p := ⟨gb123, 2, none⟩) (by first | (rw [add_block]; exact hn125_5) | (show (Addr.add _ _).block ≠ _; rw [add_block]; exact hn125_5) | exact hn125_5) (.int .i64 ((rd_T36 t102 x11_3).f2))).trans hx125_2; have hy125_0 := fun (n_ : Nat) => cell_shift (W' := (((((((w79.drewN n_).setCell ⟨gb123, 0, none⟩ (.int .i64 0)).setCell ⟨gb123, 1, none⟩ (.string (⟨#[]⟩ : ByteArray))).setCell ⟨gb123, 2, none⟩ (.int .i64 0)).setCell ⟨gb123, 0, none⟩ (.int .i64 ((rd_T36 t102 x11_3).f0))).setCell ⟨gb123, 1, none⟩ (.string ((rd_T36 t102 x11_3).f1))).setCell ⟨gb123, 2, none⟩ (.int .i64 ((rd_T36 t102 x11_3).f2)))) (by simp only [set_drewN, World.heap_drewN]) hx125_0; have hy125_1 := fun (n_ : Nat) => cell_shift (W' := (((((((w79.drewN n_).setCell ⟨gb123, 0, none⟩ (.int .i64 0)).setCell ⟨gb123, 1, none⟩ (.string (⟨#[]⟩ : ByteArray))).setCell ⟨gb123, 2, none⟩ (.int .i64 0)).setCell ⟨gb123, 0, none⟩ (.int .i64 ((rd_T36 t102 x11_3).f0))).setCell ⟨gb123, 1, none⟩ (.string ((rd_T36 t102 x11_3).f1))).setCell ⟨gb123, 2, none⟩ (.int .i64 ((rd_T36 t102 x11_3).f2)))) (by simp only [set_drewN, World.heap_drewN]) hx125_1; have hy125_2 := fun (n_ : Nat) => cell_shift (W' := (((((((w79.drewN n_).setCell ⟨gb123, 0, none⟩ (.int .i64 0)).setCell ⟨gb123, 1, none⟩ (.string (⟨#[]⟩ : ByteArray))).setCell ⟨gb123, 2, none⟩ (.int .i64 0)).setCell ⟨gb123, 0, none⟩ (.int .i64 ((rd_T36 t102 x11_3).f0))).setCell ⟨gb123, 1, none⟩ (.string ((rd_T36 t102 x11_3).f1))).setCell ⟨gb123, 2, none⟩ (.int .i64 ((rd_T36 t102 x11_3).f2)))) (by simp only [set_drewN, World.heap_drewN]) hx125_2; clear hn125_0; clear hn125_1; clear hn125_2; clear hn125_3; clear hn125_4; clear hn125_5; replace p125 := eq_true p125; replace q125 := eq_true q125))
                                        have BKc := (blk_put (cs' := #[.int .i64 (rd_T36 t102 x11_3).f0, .string (rd_T36 t102 x11_3).f1, .int .i64 (rd_T36 t102 x11_3).f2]) (blk_put (cs' := #[.int .i64 (rd_T36 t102 x11_3).f0, .string (rd_T36 t102 x11_3).f1, .int .i64 0]) (blk_put (cs' := #[.int .i64 (rd_T36 t102 x11_3).f0, .string (⟨#[]⟩ : ByteArray), .int .i64 0]) (blk_put (cs' := #[.int .i64 0, .string (⟨#[]⟩ : ByteArray), .int .i64 0]) (blk_put (cs' := #[.int .i64 0, .string (⟨#[]⟩ : ByteArray), .int .i64 0]) (blk_put (cs' := #[.int .i64 0, .string (⟨#[]⟩ : ByteArray), .int .i64 0]) BK123.out 0 (.int .i64 0) rfl) 1 (.string (⟨#[]⟩ : ByteArray)) rfl) 2 (.int .i64 0) rfl) 0 (.int .i64 (rd_T36 t102 x11_3).f0) rfl) 1 (.string (rd_T36 t102 x11_3).f1) rfl) 2 (.int .i64 (rd_T36 t102 x11_3).f2) rfl)
                                        have hv0 := (blk_cell BKc 0).trans rfl
                                        have hv1 := (blk_cell BKc 1).trans rfl
                                        have hv2 := (blk_cell BKc 2).trans rfl
                                        repeat (go_quiet (fail); try go_wp2)
                                        go_roundg kj64
                                        case measure => have := HJ10.out; have := HJ49.out; have := HK3.out; have := HJ64.out; omega
                                        case rel => exact ⟨(wrap64 (x11_3 + 1)), (by first | rfl | (simp; done) | (simp [*]; done)), H', ⟨by have := HJ10.out; have := HJ49.out; have := HK3.out; have := HJ64.out; omega⟩, ⟨by (with_reducible repeat (first | apply Kd.R_alloc | apply Kd.R_drewN | apply Kd.R_drew)); exact Kd.R_mono (Kd.R_far (p := ⟨gb123, 2, none⟩) (Kd.R_far (p := ⟨gb123, 1, none⟩) (Kd.R_far (p := ⟨gb123, 0, none⟩) (Kd.R_far (p := ⟨gb123, 2, none⟩) (Kd.R_far (p := ⟨gb123, 1, none⟩) (Kd.R_far (p := ⟨gb123, 0, none⟩) (Kd.R_mono HO_5.out (fun k_ hk => (⟨hk, hk.2⟩ : _ ∧ k_ ≠ gb123))) (fun _ hk => hk.2) (.int .i64 0)) (fun _ hk => hk.2) (.string (⟨#[]⟩ : ByteArray))) (fun _ hk => hk.2) (.int .i64 0)) (fun _ hk => hk.2) (.int .i64 ((rd_T36 t102 x11_3).f0))) (fun _ hk => hk.2) (.string ((rd_T36 t102 x11_3).f1))) (fun _ hk => hk.2) (.int .i64 ((rd_T36 t102 x11_3).f2))) (fun _ hk => ⟨hk.1.1.1, hk.1.1.2⟩)⟩, ⟨by (with_reducible repeat (first | apply Kd.R_alloc | apply Kd.R_drewN | apply Kd.R_drew)); exact Kd.R_mono (Kd.R_far (p := ⟨gb123, 2, none⟩) (Kd.R_far (p := ⟨gb123, 1, none⟩) (Kd.R_far (p := ⟨gb123, 0, none⟩) (Kd.R_far (p := ⟨gb123, 2, none⟩) (Kd.R_far (p := ⟨gb123, 1, none⟩) (Kd.R_far (p := ⟨gb123, 0, none⟩) (Kd.R_mono HO_7.out (fun k_ hk => (⟨hk, hk.2⟩ : _ ∧ k_ ≠ gb123))) (fun _ hk => hk.2) (.int .i64 0)) (fun _ hk => hk.2) (.string (⟨#[]⟩ : ByteArray))) (fun _ hk => hk.2) (.int .i64 0)) (fun _ hk => hk.2) (.int .i64 ((rd_T36 t102 x11_3).f0))) (fun _ hk => hk.2) (.string ((rd_T36 t102 x11_3).f1))) (fun _ hk => hk.2) (.int .i64 ((rd_T36 t102 x11_3).f2))) (fun _ hk => ⟨hk.1.1.1, hk.1.1.2⟩)⟩, ⟨by (with_reducible repeat (first | apply Kd.R_alloc | apply Kd.R_drewN | apply Kd.R_drew)); exact Kd.R_mono (Kd.R_far (p := ⟨gb123, 2, none⟩) (Kd.R_far (p := ⟨gb123, 1, none⟩) (Kd.R_far (p := ⟨gb123, 0, none⟩) (Kd.R_far (p := ⟨gb123, 2, none⟩) (Kd.R_far (p := ⟨gb123, 1, none⟩) (Kd.R_far (p := ⟨gb123, 0, none⟩) (Kd.R_mono HO_9.out (fun k_ hk => (⟨hk, hk.2⟩ : _ ∧ k_ ≠ gb123))) (fun _ hk => hk.2) (.int .i64 0)) (fun _ hk => hk.2) (.string (⟨#[]⟩ : ByteArray))) (fun _ hk => hk.2) (.int .i64 0)) (fun _ hk => hk.2) (.int .i64 ((rd_T36 t102 x11_3).f0))) (fun _ hk => hk.2) (.string ((rd_T36 t102 x11_3).f1))) (fun _ hk => hk.2) (.int .i64 ((rd_T36 t102 x11_3).f2))) (fun _ hk => ⟨hk.1.1.1, hk.1.1.2⟩)⟩, ⟨by (with_reducible repeat (first | refine blk_drewN ?_ _ | refine blk_drew ?_ | refine blk_alloc ?_ _)); refine blk_far ?_ NB107_123.out _; (with_reducible repeat (first | refine blk_drewN ?_ _ | refine blk_drew ?_ | refine blk_alloc ?_ _)); refine blk_far ?_ NB107_123.out _; (with_reducible repeat (first | refine blk_drewN ?_ _ | refine blk_drew ?_ | refine blk_alloc ?_ _)); refine blk_far ?_ NB107_123.out _; (with_reducible repeat (first | refine blk_drewN ?_ _ | refine blk_drew ?_ | refine blk_alloc ?_ _)); refine blk_far ?_ NB107_123.out _; (with_reducible repeat (first | refine blk_drewN ?_ _ | refine blk_drew ?_ | refine blk_alloc ?_ _)); refine blk_far ?_ NB107_123.out _; (with_reducible repeat (first | refine blk_drewN ?_ _ | refine blk_drew ?_ | refine blk_alloc ?_ _)); refine blk_far ?_ NB107_123.out _; (with_reducible repeat (first | refine blk_drewN ?_ _ | refine blk_drew ?_ | refine blk_alloc ?_ _)); exact BK107.out⟩, ⟨by (with_reducible repeat (first | refine blk_drewN ?_ _ | refine blk_drew ?_ | refine blk_alloc ?_ _)); refine blk_far ?_ NB113_123.out _; (with_reducible repeat (first | refine blk_drewN ?_ _ | refine blk_drew ?_ | refine blk_alloc ?_ _)); refine blk_far ?_ NB113_123.out _; (with_reducible repeat (first | refine blk_drewN ?_ _ | refine blk_drew ?_ | refine blk_alloc ?_ _)); refine blk_far ?_ NB113_123.out _; (with_reducible repeat (first | refine blk_drewN ?_ _ | refine blk_drew ?_ | refine blk_alloc ?_ _)); refine blk_far ?_ NB113_123.out _; (with_reducible repeat (first | refine blk_drewN ?_ _ | refine blk_drew ?_ | refine blk_alloc ?_ _)); refine blk_far ?_ NB113_123.out _; (with_reducible repeat (first | refine blk_drewN ?_ _ | refine blk_drew ?_ | refine blk_alloc ?_ _)); refine blk_far ?_ NB113_123.out _; (with_reducible repeat (first | refine blk_drewN ?_ _ | refine blk_drew ?_ | refine blk_alloc ?_ _)); exact BK113.out⟩, ⟨by (with_reducible repeat (first | refine blk_drewN ?_ _ | refine blk_drew ?_ | refine blk_alloc ?_ _)); refine blk_far ?_ NB119_123.out _; (with_reducible repeat (first | refine blk_drewN ?_ _ | refine blk_drew ?_ | refine blk_alloc ?_ _)); refine blk_far ?_ NB119_123.out _; (with_reducible repeat (first | refine blk_drewN ?_ _ | refine blk_drew ?_ | refine blk_alloc ?_ _)); refine blk_far ?_ NB119_123.out _; (with_reducible repeat (first | refine blk_drewN ?_ _ | refine blk_drew ?_ | refine blk_alloc ?_ _)); refine blk_far ?_ NB119_123.out _; (with_reducible repeat (first | refine blk_drewN ?_ _ | refine blk_drew ?_ | refine blk_alloc ?_ _)); refine blk_far ?_ NB119_123.out _; (with_reducible repeat (first | refine blk_drewN ?_ _ | refine blk_drew ?_ | refine blk_alloc ?_ _)); refine blk_far ?_ NB119_123.out _; (with_reducible repeat (first | refine blk_drewN ?_ _ | refine blk_drew ?_ | refine blk_alloc ?_ _)); exact BK119.out⟩, ⟨by repeat (first | (with_reducible first | exact HB.out | apply below_alloc | apply pw_below_drewN | apply below_drew1 | refine below_set ?_ GE107.out | refine below_set ?_ GE113.out | refine below_set ?_ GE119.out | refine below_set ?_ GE123.out) | exact HB.out)⟩⟩
                                    · rw [if_neg c70] at H
                                      exact absurd H (by simp)
                                  · rw [if_neg c69] at H
                                    exact absurd H (by simp)
                                · rw [if_neg c68] at H
                                  have c68b0 : decide (x11_3 < (t102.length : Int)) = false := decide_eq_false c68
                                  clear c68
                                  obtain ⟨ji86, hji86⟩ : ∃ j_ : Int, (wrap64 (x11_3 - (t102.length : Int))) = j_ := ⟨_, rfl⟩
                                  replace H : (if 0 ≤ (ji86) then (if (ji86) < (t108.length : Int) then (if 0 ≤ x11_3 then (if x11_3 < (t114.length : Int) then (if (!(((rd_T36 t114 x11_3).f0) == ((rd_T36 t108 (ji86)).f0)) || (!((((rd_T36 t114 x11_3).f1).toList) == (((rd_T36 t108 (ji86)).f1).toList)) || (!(((rd_T36 t114 x11_3).f2) == (wrap64 (((rd_T36 t108 (ji86)).f2) + (wrap64 ((a0.size : Int) + 1)))))))) = true then (some false) else (topiaristlaw01_LexRow.l0 kj64 a0 t102 t108 t114 (wrap64 (x11_3 + 1)))) else (none)) else (none)) else (none)) else (none)) = some r := by first | (rw [hji86] at H; exact H) | (simp only [hji86] at H ⊢; exact H)
                                  have hji86w : (IntKind.i64.wrap (x11_3 - (t102.length : Int))) = ji86 := (i64_w _).trans hji86
                                  by_cases c87 : 0 ≤ (ji86)
                                  · rw [if_pos c87] at H
                                    have c87b0 : decide (0 ≤ (ji86)) = true := decide_eq_true c87
                                    clear c87
                                    by_cases c88 : (ji86) < (t108.length : Int)
                                    · rw [if_pos c88] at H
                                      have c88b0 : decide ((ji86) < (t108.length : Int)) = true := decide_eq_true c88
                                      clear c88
                                      by_cases c89 : 0 ≤ x11_3
                                      · rw [if_pos c89] at H
                                        have c89b0 : decide (0 ≤ x11_3) = true := decide_eq_true c89
                                        clear c89
                                        by_cases c90 : x11_3 < (t114.length : Int)
                                        · rw [if_pos c90] at H
                                          have c90b0 : decide (x11_3 < (t114.length : Int)) = true := decide_eq_true c90
                                          clear c90
                                          by_cases c91 : (!(((rd_T36 t114 x11_3).f0) == ((rd_T36 t108 (ji86)).f0)) || (!((((rd_T36 t114 x11_3).f1).toList) == (((rd_T36 t108 (ji86)).f1).toList)) || (!(((rd_T36 t114 x11_3).f2) == (wrap64 (((rd_T36 t108 (ji86)).f2) + (wrap64 ((a0.size : Int) + 1)))))))) = true
                                          · rw [if_pos c91] at H
                                            have c91b0 : (!(((rd_T36 t114 x11_3).f0) == ((rd_T36 t108 (ji86)).f0)) || (!((((rd_T36 t114 x11_3).f1).toList) == (((rd_T36 t108 (ji86)).f1).toList)) || (!(((rd_T36 t114 x11_3).f2) == (wrap64 (((rd_T36 t108 (ji86)).f2) + (wrap64 ((a0.size : Int) + 1)))))))) = true := c91
                                            clear c91
                                            obtain rfl := Option.some.inj H
                                            go_upto_region 19 with (first | ((with_reducible refine gate_dst (N := 12) rfl ?_); (try (refine gate_guard (by rfl) ?_; dsimp only)); refine box_event ?hg (N := 12) ?hd (cs := #[.int .i64 0, .string (⟨#[]⟩ : ByteArray), .int .i64 0]) (t := 36) ?hr ?_; (case hd => rfl); (case hg => rfl); (case hr => first | (go_simp; done) | (go_simp; rfl)); intro gb123 hg w92 hbox hb; have FHO_7_123 := Aside0.mk (newer HO_7.out hg); have FHO_9_123 := Aside0.mk (newer HO_9.out hg); have n0_ := Aside0.mk (Kd.R_below (Kd.R_elderB (by (with_reducible repeat (first | apply Kd.R_alloc | apply Kd.R_drewN | apply Kd.R_drew)); exact HO_5.out) gb123 (Nat.le_of_eq hg.symm)) hb); have n1_ := Aside0.mk (Kd.R_below (Kd.R_elderB (by (with_reducible repeat (first | apply Kd.R_alloc | apply Kd.R_drewN | apply Kd.R_drew)); exact HO_7.out) gb123 (Nat.le_of_eq hg.symm)) hb); have n2_ := Aside0.mk (Kd.R_below (Kd.R_elderB (by (with_reducible repeat (first | apply Kd.R_alloc | apply Kd.R_drewN | apply Kd.R_drew)); exact HO_9.out) gb123 (Nat.le_of_eq hg.symm)) hb); have n3_ := Aside0.mk (blk_below (g := gb107) (o := .cells #[.int .i64 t105, .int .i64 t106] 26 (0, 0)) (by (with_reducible repeat (first | refine blk_drewN ?_ _ | refine blk_drew ?_ | refine blk_alloc ?_ _)); exact BK107.out) hb); have n4_ := Aside0.mk (blk_below (g := gb113) (o := .cells #[.int .i64 t111, .int .i64 t112] 26 (0, 0)) (by (with_reducible repeat (first | refine blk_drewN ?_ _ | refine blk_drew ?_ | refine blk_alloc ?_ _)); exact BK113.out) hb); have n5_ := Aside0.mk (blk_below (g := gb119) (o := .cells #[.int .i64 t117, .int .i64 t118] 26 (0, 0)) (by (with_reducible repeat (first | refine blk_drewN ?_ _ | refine blk_drew ?_ | refine blk_alloc ?_ _)); exact BK119.out) hb); have n6_ := Aside0.mk (below_step (by repeat (first | (with_reducible first | exact HB.out | apply below_alloc | apply pw_below_drewN | apply below_drew1 | refine below_set ?_ GE107.out | refine below_set ?_ GE113.out | refine below_set ?_ GE119.out) | exact HB.out)) hb); have n7_ := Aside0.mk (hbox); have n8_ := Aside0.mk ((by rw [hg]; exact (below_size (by repeat (first | (with_reducible first | exact HB.out | apply below_alloc | apply pw_below_drewN | apply below_drew1 | refine below_set ?_ GE107.out | refine below_set ?_ GE113.out | refine below_set ?_ GE119.out) | exact HB.out))) : w.heap.size ≤ gb123)); have n9_ := Aside0.mk ((by rw [hg]; exact (below_size (by repeat (first | (with_reducible first | exact HB.out | apply below_alloc | apply pw_below_drewN | apply below_drew1 | refine below_set ?_ GE107.out | refine below_set ?_ GE113.out | refine below_set ?_ GE119.out) | exact HB.out))) : w.heap.size ≤ gb123)); have n10_ := Aside0.mk ((by rw [hg]; exact Nat.ne_of_lt (blk_lt (g := gb107) (o := .cells #[.int .i64 t105, .int .i64 t106] 26 (0, 0)) (by (with_reducible repeat (first | refine blk_drewN ?_ _ | refine blk_drew ?_ | refine blk_alloc ?_ _)); exact BK107.out)) : gb107 ≠ gb123)); have n11_ := Aside0.mk ((by rw [hg]; exact Nat.ne_of_gt (blk_lt (g := gb107) (o := .cells #[.int .i64 t105, .int .i64 t106] 26 (0, 0)) (by (with_reducible repeat (first | refine blk_drewN ?_ _ | refine blk_drew ?_ | refine blk_alloc ?_ _)); exact BK107.out)) : gb123 ≠ gb107)); have n12_ := Aside0.mk ((by rw [hg]; exact Nat.ne_of_lt (blk_lt (g := gb113) (o := .cells #[.int .i64 t111, .int .i64 t112] 26 (0, 0)) (by (with_reducible repeat (first | refine blk_drewN ?_ _ | refine blk_drew ?_ | refine blk_alloc ?_ _)); exact BK113.out)) : gb113 ≠ gb123)); have n13_ := Aside0.mk ((by rw [hg]; exact Nat.ne_of_gt (blk_lt (g := gb113) (o := .cells #[.int .i64 t111, .int .i64 t112] 26 (0, 0)) (by (with_reducible repeat (first | refine blk_drewN ?_ _ | refine blk_drew ?_ | refine blk_alloc ?_ _)); exact BK113.out)) : gb123 ≠ gb113)); have n14_ := Aside0.mk ((by rw [hg]; exact Nat.ne_of_lt (blk_lt (g := gb119) (o := .cells #[.int .i64 t117, .int .i64 t118] 26 (0, 0)) (by (with_reducible repeat (first | refine blk_drewN ?_ _ | refine blk_drew ?_ | refine blk_alloc ?_ _)); exact BK119.out)) : gb119 ≠ gb123)); have n15_ := Aside0.mk ((by rw [hg]; exact Nat.ne_of_gt (blk_lt (g := gb119) (o := .cells #[.int .i64 t117, .int .i64 t118] 26 (0, 0)) (by (with_reducible repeat (first | refine blk_drewN ?_ _ | refine blk_drew ?_ | refine blk_alloc ?_ _)); exact BK119.out)) : gb123 ≠ gb119)); clear HO_5; clear HO_7; clear HO_9; clear BK107; clear BK113; clear BK119; clear HB; have HO_5 := n0_; have HO_7 := n1_; have HO_9 := n2_; have BK107 := n3_; have BK113 := n4_; have BK119 := n5_; have HB := n6_; have BK123 := n7_; have GW123 := n8_; have GE123 := n9_; have NB107_123 := n10_; have NB123_107 := n11_; have NB113_123 := n12_; have NB123_113 := n13_; have NB119_123 := n14_; have NB123_119 := n15_; clear n0_ n1_ n2_ n3_ n4_ n5_ n6_ n7_ n8_ n9_ n10_ n11_ n12_ n13_ n14_ n15_; clear hb hbox hg; have hnb93 := NB123_107.out; have hnc93 := NB107_123.out; have hnb94 := NB123_113.out; have hnc94 := NB113_123.out; have hnb95 := NB123_119.out; have hnc95 := NB119_123.out; have hcz96_0 : w92.cell? ⟨gb123, 0, none⟩ = some (.int .i64 0) := (blk_cell BK123.out 0).trans rfl; have hcz96_1 : w92.cell? ⟨gb123, 1, none⟩ = some (.string (⟨#[]⟩ : ByteArray)) := (blk_cell BK123.out 1).trans rfl; have hcz96_2 : w92.cell? ⟨gb123, 2, none⟩ = some (.int .i64 0) := (blk_cell BK123.out 2).trans rfl; have hfz96_0 := blk_frozen BK123.out 0; have hfz96_1 := blk_frozen BK123.out 1; have hfz96_2 := blk_frozen BK123.out 2; obtain ⟨Ao97, co97, eo97⟩ := Kd.R_slice HO_5.out; subst eo97; obtain ⟨Ao98, co98, eo98⟩ := Kd.R_slice HO_7.out; subst eo98; have p126 : 0 ≤ ((ji86) : Int) := of_decide_eq_true (by first | (with_reducible assumption) | assumption); have q126 : (ji86) < (t108.length : Int) := of_decide_eq_true (by first | (with_reducible assumption) | assumption); obtain ⟨ad126, e126, hx126_0, hx126_1, hx126_2⟩ := at_T36 (Kd.R_reads' HO_7.out).2.2 (ji86) p126 q126; cases e126; have hn126_0 : ad126.block ≠ gb123 := FHO_7_123.out _ rfl; have hn126_1 : ad126.block ≠ gb123 := FHO_7_123.out _ rfl; have hn126_2 : ad126.block ≠ gb123 := FHO_7_123.out _ rfl; replace hx126_0 := (cell_far (p := ⟨gb123, 0, none⟩) (by first | (rw [add_block]; exact hn126_0) | (show (Addr.add _ _).block ≠ _; rw [add_block]; exact hn126_0) | exact hn126_0) (.int .i64 0)).trans hx126_0; replace hx126_1 := (cell_far (p := ⟨gb123, 0, none⟩) (by first | (rw [add_block]; exact hn126_0) | (show (Addr.add _ _).block ≠ _; rw [add_block]; exact hn126_0) | exact hn126_0) (.int .i64 0)).trans hx126_1; replace hx126_2 := (cell_far (p := ⟨gb123, 0, none⟩) (by first | (rw [add_block]; exact hn126_0) | (show (Addr.add _ _).block ≠ _; rw [add_block]; exact hn126_0) | exact hn126_0) (.int .i64 0)).trans hx126_2; replace hx126_0 := (cell_far (p := ⟨gb123, 1, none⟩) (by first | (rw [add_block]; exact hn126_1) | (show (Addr.add _ _).block ≠ _; rw [add_block]; exact hn126_1) | exact hn126_1) (.string (⟨#[]⟩ : ByteArray))).trans hx126_0; replace hx126_1 := (cell_far (p := ⟨gb123, 1, none⟩) (by first | (rw [add_block]; exact hn126_1) | (show (Addr.add _ _).block ≠ _; rw [add_block]; exact hn126_1) | exact hn126_1) (.string (⟨#[]⟩ : ByteArray))).trans hx126_1; replace hx126_2 := (cell_far (p := ⟨gb123, 1, none⟩) (by first | (rw [add_block]; exact hn126_1) | (show (Addr.add _ _).block ≠ _; rw [add_block]; exact hn126_1) | exact hn126_1) (.string (⟨#[]⟩ : ByteArray))).trans hx126_2; replace hx126_0 := (cell_far (p := ⟨gb123, 2, none⟩) (by first | (rw [add_block]; exact hn126_2) | (show (Addr.add _ _).block ≠ _; rw [add_block]; exact hn126_2) | exact hn126_2) (.int .i64 0)).trans hx126_0; replace hx126_1 := (cell_far (p := ⟨gb123, 2, none⟩) (by first | (rw [add_block]; exact hn126_2) | (show (Addr.add _ _).block ≠ _; rw [add_block]; exact hn126_2) | exact hn126_2) (.int .i64 0)).trans hx126_1; replace hx126_2 := (cell_far (p := ⟨gb123, 2, none⟩) (by first | (rw [add_block]; exact hn126_2) | (show (Addr.add _ _).block ≠ _; rw [add_block]; exact hn126_2) | exact hn126_2) (.int .i64 0)).trans hx126_2; have hy126_0 := fun (n_ : Nat) => cell_shift (W' := ((((w92.drewN n_).setCell ⟨gb123, 0, none⟩ (.int .i64 0)).setCell ⟨gb123, 1, none⟩ (.string (⟨#[]⟩ : ByteArray))).setCell ⟨gb123, 2, none⟩ (.int .i64 0))) (by simp only [set_drewN, World.heap_drewN]) hx126_0; have hy126_1 := fun (n_ : Nat) => cell_shift (W' := ((((w92.drewN n_).setCell ⟨gb123, 0, none⟩ (.int .i64 0)).setCell ⟨gb123, 1, none⟩ (.string (⟨#[]⟩ : ByteArray))).setCell ⟨gb123, 2, none⟩ (.int .i64 0))) (by simp only [set_drewN, World.heap_drewN]) hx126_1; have hy126_2 := fun (n_ : Nat) => cell_shift (W' := ((((w92.drewN n_).setCell ⟨gb123, 0, none⟩ (.int .i64 0)).setCell ⟨gb123, 1, none⟩ (.string (⟨#[]⟩ : ByteArray))).setCell ⟨gb123, 2, none⟩ (.int .i64 0))) (by simp only [set_drewN, World.heap_drewN]) hx126_2; clear hn126_0; clear hn126_1; clear hn126_2; replace p126 := eq_true p126; replace q126 := eq_true q126; obtain ⟨Ao99, co99, eo99⟩ := Kd.R_slice HO_9.out; subst eo99; have p127 : 0 ≤ (x11_3 : Int) := of_decide_eq_true (by first | (with_reducible assumption) | assumption); have q127 : x11_3 < (t114.length : Int) := of_decide_eq_true (by first | (with_reducible assumption) | assumption); obtain ⟨ad127, e127, hx127_0, hx127_1, hx127_2⟩ := at_T36 (Kd.R_reads' HO_9.out).2.2 x11_3 p127 q127; cases e127; have hn127_0 : ad127.block ≠ gb123 := FHO_9_123.out _ rfl; have hn127_1 : ad127.block ≠ gb123 := FHO_9_123.out _ rfl; have hn127_2 : ad127.block ≠ gb123 := FHO_9_123.out _ rfl; have hn127_3 : ad127.block ≠ gb123 := FHO_9_123.out _ rfl; have hn127_4 : ad127.block ≠ gb123 := FHO_9_123.out _ rfl; have hn127_5 : ad127.block ≠ gb123 := FHO_9_123.out _ rfl; have hn127_6 : ad127.block ≠ gb123 := FHO_9_123.out _ rfl; replace hx127_0 := (cell_far (p := ⟨gb123, 0, none⟩) (by first | (rw [add_block]; exact hn127_0) | (show (Addr.add _ _).block ≠ _; rw [add_block]; exact hn127_0) | exact hn127_0) (.int .i64 0)).trans hx127_0; replace hx127_1 := (cell_far (p := ⟨gb123, 0, none⟩) (by first | (rw [add_block]; exact hn127_0) | (show (Addr.add _ _).block ≠ _; rw [add_block]; exact hn127_0) | exact hn127_0) (.int .i64 0)).trans hx127_1; replace hx127_2 := (cell_far (p := ⟨gb123, 0, none⟩) (by first | (rw [add_block]; exact hn127_0) | (show (Addr.add _ _).block ≠ _; rw [add_block]; exact hn127_0) | exact hn127_0) (.int .i64 0)).trans hx127_2; replace hx127_0 := (cell_far (p := ⟨gb123, 1, none⟩) (by first | (rw [add_block]; exact hn127_1) | (show (Addr.add _ _).block ≠ _; rw [add_block]; exact hn127_1) | exact hn127_1) (.string (⟨#[]⟩ : ByteArray))).trans hx127_0; replace hx127_1 := (cell_far (p := ⟨gb123, 1, none⟩) (by first | (rw [add_block]; exact hn127_1) | (show (Addr.add _ _).block ≠ _; rw [add_block]; exact hn127_1) | exact hn127_1) (.string (⟨#[]⟩ : ByteArray))).trans hx127_1; replace hx127_2 := (cell_far (p := ⟨gb123, 1, none⟩) (by first | (rw [add_block]; exact hn127_1) | (show (Addr.add _ _).block ≠ _; rw [add_block]; exact hn127_1) | exact hn127_1) (.string (⟨#[]⟩ : ByteArray))).trans hx127_2; replace hx127_0 := (cell_far (p := ⟨gb123, 2, none⟩) (by first | (rw [add_block]; exact hn127_2) | (show (Addr.add _ _).block ≠ _; rw [add_block]; exact hn127_2) | exact hn127_2) (.int .i64 0)).trans hx127_0; replace hx127_1 := (cell_far (p := ⟨gb123, 2, none⟩) (by first | (rw [add_block]; exact hn127_2) | (show (Addr.add _ _).block ≠ _; rw [add_block]; exact hn127_2) | exact hn127_2) (.int .i64 0)).trans hx127_1; replace hx127_2 := (cell_far (p := ⟨gb123, 2, none⟩) (by first | (rw [add_block]; exact hn127_2) | (show (Addr.add _ _).block ≠ _; rw [add_block]; exact hn127_2) | exact hn127_2) (.int .i64 0)).trans hx127_2; replace hx127_0 := (cell_far (p := ⟨gb123, 0, none⟩) (by first | (rw [add_block]; exact hn127_3) | (show (Addr.add _ _).block ≠ _; rw [add_block]; exact hn127_3) | exact hn127_3) (.int .i64 ((rd_T36 t108 (ji86)).f0))).trans hx127_0; replace hx127_1 := (cell_far (p := ⟨gb123, 0, none⟩) (by first | (rw [add_block]; exact hn127_3) | (show (Addr.add _ _).block ≠ _; rw [add_block]; exact hn127_3) | exact hn127_3) (.int .i64 ((rd_T36 t108 (ji86)).f0))).trans hx127_1; replace hx127_2 := (cell_far (p := ⟨gb123, 0, none⟩) (by first | (rw [add_block]; exact hn127_3) | (show (Addr.add _ _).block ≠ _; rw [add_block]; exact hn127_3) | exact hn127_3) (.int .i64 ((rd_T36 t108 (ji86)).f0))).trans hx127_2; replace hx127_0 := (cell_far (p := ⟨gb123, 1, none⟩) (by first | (rw [add_block]; exact hn127_4) | (show (Addr.add _ _).block ≠ _; rw [add_block]; exact hn127_4) | exact hn127_4) (.string ((rd_T36 t108 (ji86)).f1))).trans hx127_0; replace hx127_1 := (cell_far (p := ⟨gb123, 1, none⟩) (by first | (rw [add_block]; exact hn127_4) | (show (Addr.add _ _).block ≠ _; rw [add_block]; exact hn127_4) | exact hn127_4) (.string ((rd_T36 t108 (ji86)).f1))).trans hx127_1; replace hx127_2 := (cell_far (p := ⟨gb123, 1, none⟩) (by first | (rw [add_block]; exact hn127_4) | (show (Addr.add _ _).block ≠ _; rw [add_block]; exact hn127_4) | exact hn127_4) (.string ((rd_T36 t108 (ji86)).f1))).trans hx127_2; replace hx127_0 := (cell_far (p := ⟨gb123, 2, none⟩) (by first | (rw [add_block]; exact hn127_5) | (show (Addr.add _ _).block ≠ _; rw [add_block]; exact hn127_5) | exact hn127_5) (.int .i64 ((rd_T36 t108 (ji86)).f2))).trans hx127_0; replace hx127_1 := (cell_far (p := ⟨gb123, 2, none⟩) (by first | (rw [add_block]; exact hn127_5) | (show (Addr.add _ _).block ≠ _; rw [add_block]; exact hn127_5) | exact hn127_5) (.int .i64 ((rd_T36 t108 (ji86)).f2))).trans hx127_1; replace hx127_2 := (cell_far (p := ⟨gb123, 2, none⟩) (by first | (rw [add_block]; exact hn127_5) | (show (Addr.add _ _).block ≠ _; rw [add_block]; exact hn127_5) | exact hn127_5) (.int .i64 ((rd_T36 t108 (ji86)).f2))).trans hx127_2; replace hx127_0 := (cell_far (p := ⟨gb123, 2, none⟩) (by first | (rw [add_block]; exact hn127_6) | (show (Addr.add _ _).block ≠ _; rw [add_block]; exact hn127_6) | exact hn127_6) (.int .i64 (wrap64 (((rd_T36 t108 (ji86)).f2) + (wrap64 ((a0.size : Int) + 1)))))).trans hx127_0; replace hx127_1 := (cell_far (p := ⟨gb123, 2, none⟩) (by first | (rw [add_block]; exact hn127_6) | (show (Addr.add _ _).block ≠ _; rw [add_block]; exact hn127_6) | exact hn127_6) (.int .i64 (wrap64 (((rd_T36 t108 (ji86)).f2) + (wrap64 ((a0.size : Int) + 1)))))).trans hx127_1; replace hx127_2 := (cell_far (p := ⟨gb123, 2, none⟩) (by first | (rw [add_block]; exact hn127_6) | (show (Addr.add _ _).block ≠ _; rw [add_block]; exact hn127_6) | exact hn127_6) (.int .i64 (wrap64 (((rd_T36 t108 (ji86)).f2) + (wrap64 ((a0.size : Int) + 1)))))).trans hx127_2; have hy127_0 := fun (n_ : Nat) => cell_shift (W' := ((((((((w92.drewN n_).setCell ⟨gb123, 0, none⟩ (.int .i64 0)).setCell ⟨gb123, 1, none⟩ (.string (⟨#[]⟩ : ByteArray))).setCell ⟨gb123, 2, none⟩ (.int .i64 0)).setCell ⟨gb123, 0, none⟩ (.int .i64 ((rd_T36 t108 (ji86)).f0))).setCell ⟨gb123, 1, none⟩ (.string ((rd_T36 t108 (ji86)).f1))).setCell ⟨gb123, 2, none⟩ (.int .i64 ((rd_T36 t108 (ji86)).f2))).setCell ⟨gb123, 2, none⟩ (.int .i64 (wrap64 (((rd_T36 t108 (ji86)).f2) + (wrap64 ((a0.size : Int) + 1))))))) (by simp only [set_drewN, World.heap_drewN]) hx127_0; have hy127_1 := fun (n_ : Nat) => cell_shift (W' := ((((((((w92.drewN n_).setCell ⟨gb123, 0, none⟩ (.int .i64 0)).setCell ⟨gb123, 1, none⟩ (.string (⟨#[]⟩ : ByteArray))).setCell ⟨gb123, 2, none⟩ (.int .i64 0)).setCell ⟨gb123, 0, none⟩ (.int .i64 ((rd_T36 t108 (ji86)).f0))).setCell ⟨gb123, 1, none⟩ (.string ((rd_T36 t108 (ji86)).f1))).setCell ⟨gb123, 2, none⟩ (.int .i64 ((rd_T36 t108 (ji86)).f2))).setCell ⟨gb123, 2, none⟩ (.int .i64 (wrap64 (((rd_T36 t108 (ji86)).f2) + (wrap64 ((a0.size : Int) + 1))))))) (by simp only [set_drewN, World.heap_drewN]) hx127_1; have hy127_2 := fun (n_ : Nat) => cell_shift (W' := ((((((((w92.drewN n_).setCell ⟨gb123, 0, none⟩ (.int .i64 0)).setCell ⟨gb123, 1, none⟩ (.string (⟨#[]⟩ : ByteArray))).setCell ⟨gb123, 2, none⟩ (.int .i64 0)).setCell ⟨gb123, 0, none⟩ (.int .i64 ((rd_T36 t108 (ji86)).f0))).setCell ⟨gb123, 1, none⟩ (.string ((rd_T36 t108 (ji86)).f1))).setCell ⟨gb123, 2, none⟩ (.int .i64 ((rd_T36 t108 (ji86)).f2))).setCell ⟨gb123, 2, none⟩ (.int .i64 (wrap64 (((rd_T36 t108 (ji86)).f2) + (wrap64 ((a0.size : Int) + 1))))))) (by simp only [set_drewN, World.heap_drewN]) hx127_2; clear hn127_0; clear hn127_1; clear hn127_2; clear hn127_3; clear hn127_4; clear hn127_5; clear hn127_6; replace p127 := eq_true p127; replace q127 := eq_true q127))
                                            have BKc := (blk_put (cs' := #[.int .i64 (rd_T36 t108 (ji86)).f0, .string (rd_T36 t108 (ji86)).f1, .int .i64 (rd_T36 t108 (ji86)).f2]) (blk_put (cs' := #[.int .i64 (rd_T36 t108 (ji86)).f0, .string (rd_T36 t108 (ji86)).f1, .int .i64 0]) (blk_put (cs' := #[.int .i64 (rd_T36 t108 (ji86)).f0, .string (⟨#[]⟩ : ByteArray), .int .i64 0]) (blk_put (cs' := #[.int .i64 0, .string (⟨#[]⟩ : ByteArray), .int .i64 0]) (blk_put (cs' := #[.int .i64 0, .string (⟨#[]⟩ : ByteArray), .int .i64 0]) (blk_put (cs' := #[.int .i64 0, .string (⟨#[]⟩ : ByteArray), .int .i64 0]) BK123.out 0 (.int .i64 0) rfl) 1 (.string (⟨#[]⟩ : ByteArray)) rfl) 2 (.int .i64 0) rfl) 0 (.int .i64 (rd_T36 t108 (ji86)).f0) rfl) 1 (.string (rd_T36 t108 (ji86)).f1) rfl) 2 (.int .i64 (rd_T36 t108 (ji86)).f2) rfl)
                                            have hv0 := (blk_cell BKc 0).trans rfl
                                            have hv1 := (blk_cell BKc 1).trans rfl
                                            have hv2 := (blk_cell BKc 2).trans rfl
                                            go_upto_region 20 with (fail)
                                            have BKd := blk_put (cs' := #[.int .i64 (rd_T36 t108 (ji86)).f0, .string (rd_T36 t108 (ji86)).f1, .int .i64 (wrap64 ((rd_T36 t108 (ji86)).f2 + wrap64 ((a0.size : Int) + 1)))]) BKc 2 (.int .i64 (wrap64 ((rd_T36 t108 (ji86)).f2 + wrap64 ((a0.size : Int) + 1)))) rfl
                                            have hu0 := (blk_cell BKd 0).trans rfl
                                            have hu1 := (blk_cell BKd 1).trans rfl
                                            have hu2 := (blk_cell BKd 2).trans rfl
                                            repeat (go_quiet (fail); try go_wp2)
                                            go_ret
                                            exact ⟨by first | rfl | (simp [errW_none, errW_some] <;> rfl) | (simp only [← hji86]; first | rfl | (simp [errW_none, errW_some] <;> rfl)) | (simp [*, errW_none, errW_some] <;> rfl), by repeat (first | (with_reducible first | exact HB.out | apply below_alloc | apply pw_below_drewN | apply below_drew1 | refine below_set ?_ GE107.out | refine below_set ?_ GE113.out | refine below_set ?_ GE119.out | refine below_set ?_ GE123.out) | exact HB.out)⟩
                                          · rw [if_neg c91] at H
                                            have c91b0 : (!(((rd_T36 t114 x11_3).f0) == ((rd_T36 t108 (ji86)).f0)) || (!((((rd_T36 t114 x11_3).f1).toList) == (((rd_T36 t108 (ji86)).f1).toList)) || (!(((rd_T36 t114 x11_3).f2) == (wrap64 (((rd_T36 t108 (ji86)).f2) + (wrap64 ((a0.size : Int) + 1)))))))) = false := by simpa using c91
                                            clear c91
                                            have H' := Aside0.mk H
                                            clear H
                                            go_upto_region 19 with (first | ((with_reducible refine gate_dst (N := 12) rfl ?_); (try (refine gate_guard (by rfl) ?_; dsimp only)); refine box_event ?hg (N := 12) ?hd (cs := #[.int .i64 0, .string (⟨#[]⟩ : ByteArray), .int .i64 0]) (t := 36) ?hr ?_; (case hd => rfl); (case hg => rfl); (case hr => first | (go_simp; done) | (go_simp; rfl)); intro gb123 hg w100 hbox hb; have FHO_7_123 := Aside0.mk (newer HO_7.out hg); have FHO_9_123 := Aside0.mk (newer HO_9.out hg); have n0_ := Aside0.mk (Kd.R_below (Kd.R_elderB (by (with_reducible repeat (first | apply Kd.R_alloc | apply Kd.R_drewN | apply Kd.R_drew)); exact HO_5.out) gb123 (Nat.le_of_eq hg.symm)) hb); have n1_ := Aside0.mk (Kd.R_below (Kd.R_elderB (by (with_reducible repeat (first | apply Kd.R_alloc | apply Kd.R_drewN | apply Kd.R_drew)); exact HO_7.out) gb123 (Nat.le_of_eq hg.symm)) hb); have n2_ := Aside0.mk (Kd.R_below (Kd.R_elderB (by (with_reducible repeat (first | apply Kd.R_alloc | apply Kd.R_drewN | apply Kd.R_drew)); exact HO_9.out) gb123 (Nat.le_of_eq hg.symm)) hb); have n3_ := Aside0.mk (blk_below (g := gb107) (o := .cells #[.int .i64 t105, .int .i64 t106] 26 (0, 0)) (by (with_reducible repeat (first | refine blk_drewN ?_ _ | refine blk_drew ?_ | refine blk_alloc ?_ _)); exact BK107.out) hb); have n4_ := Aside0.mk (blk_below (g := gb113) (o := .cells #[.int .i64 t111, .int .i64 t112] 26 (0, 0)) (by (with_reducible repeat (first | refine blk_drewN ?_ _ | refine blk_drew ?_ | refine blk_alloc ?_ _)); exact BK113.out) hb); have n5_ := Aside0.mk (blk_below (g := gb119) (o := .cells #[.int .i64 t117, .int .i64 t118] 26 (0, 0)) (by (with_reducible repeat (first | refine blk_drewN ?_ _ | refine blk_drew ?_ | refine blk_alloc ?_ _)); exact BK119.out) hb); have n6_ := Aside0.mk (below_step (by repeat (first | (with_reducible first | exact HB.out | apply below_alloc | apply pw_below_drewN | apply below_drew1 | refine below_set ?_ GE107.out | refine below_set ?_ GE113.out | refine below_set ?_ GE119.out) | exact HB.out)) hb); have n7_ := Aside0.mk (hbox); have n8_ := Aside0.mk ((by rw [hg]; exact (below_size (by repeat (first | (with_reducible first | exact HB.out | apply below_alloc | apply pw_below_drewN | apply below_drew1 | refine below_set ?_ GE107.out | refine below_set ?_ GE113.out | refine below_set ?_ GE119.out) | exact HB.out))) : w.heap.size ≤ gb123)); have n9_ := Aside0.mk ((by rw [hg]; exact (below_size (by repeat (first | (with_reducible first | exact HB.out | apply below_alloc | apply pw_below_drewN | apply below_drew1 | refine below_set ?_ GE107.out | refine below_set ?_ GE113.out | refine below_set ?_ GE119.out) | exact HB.out))) : w.heap.size ≤ gb123)); have n10_ := Aside0.mk ((by rw [hg]; exact Nat.ne_of_lt (blk_lt (g := gb107) (o := .cells #[.int .i64 t105, .int .i64 t106] 26 (0, 0)) (by (with_reducible repeat (first | refine blk_drewN ?_ _ | refine blk_drew ?_ | refine blk_alloc ?_ _)); exact BK107.out)) : gb107 ≠ gb123)); have n11_ := Aside0.mk ((by rw [hg]; exact Nat.ne_of_gt (blk_lt (g := gb107) (o := .cells #[.int .i64 t105, .int .i64 t106] 26 (0, 0)) (by (with_reducible repeat (first | refine blk_drewN ?_ _ | refine blk_drew ?_ | refine blk_alloc ?_ _)); exact BK107.out)) : gb123 ≠ gb107)); have n12_ := Aside0.mk ((by rw [hg]; exact Nat.ne_of_lt (blk_lt (g := gb113) (o := .cells #[.int .i64 t111, .int .i64 t112] 26 (0, 0)) (by (with_reducible repeat (first | refine blk_drewN ?_ _ | refine blk_drew ?_ | refine blk_alloc ?_ _)); exact BK113.out)) : gb113 ≠ gb123)); have n13_ := Aside0.mk ((by rw [hg]; exact Nat.ne_of_gt (blk_lt (g := gb113) (o := .cells #[.int .i64 t111, .int .i64 t112] 26 (0, 0)) (by (with_reducible repeat (first | refine blk_drewN ?_ _ | refine blk_drew ?_ | refine blk_alloc ?_ _)); exact BK113.out)) : gb123 ≠ gb113)); have n14_ := Aside0.mk ((by rw [hg]; exact Nat.ne_of_lt (blk_lt (g := gb119) (o := .cells #[.int .i64 t117, .int .i64 t118] 26 (0, 0)) (by (with_reducible repeat (first | refine blk_drewN ?_ _ | refine blk_drew ?_ | refine blk_alloc ?_ _)); exact BK119.out)) : gb119 ≠ gb123)); have n15_ := Aside0.mk ((by rw [hg]; exact Nat.ne_of_gt (blk_lt (g := gb119) (o := .cells #[.int .i64 t117, .int .i64 t118] 26 (0, 0)) (by (with_reducible repeat (first | refine blk_drewN ?_ _ | refine blk_drew ?_ | refine blk_alloc ?_ _)); exact BK119.out)) : gb123 ≠ gb119)); clear HO_5; clear HO_7; clear HO_9; clear BK107; clear BK113; clear BK119; clear HB; have HO_5 := n0_; have HO_7 := n1_; have HO_9 := n2_; have BK107 := n3_; have BK113 := n4_; have BK119 := n5_; have HB := n6_; have BK123 := n7_; have GW123 := n8_; have GE123 := n9_; have NB107_123 := n10_; have NB123_107 := n11_; have NB113_123 := n12_; have NB123_113 := n13_; have NB119_123 := n14_; have NB123_119 := n15_; clear n0_ n1_ n2_ n3_ n4_ n5_ n6_ n7_ n8_ n9_ n10_ n11_ n12_ n13_ n14_ n15_; clear hb hbox hg; have hnb101 := NB123_107.out; have hnc101 := NB107_123.out; have hnb102 := NB123_113.out; have hnc102 := NB113_123.out; have hnb103 := NB123_119.out; have hnc103 := NB119_123.out; have hcz104_0 : w100.cell? ⟨gb123, 0, none⟩ = some (.int .i64 0) := (blk_cell BK123.out 0).trans rfl; have hcz104_1 : w100.cell? ⟨gb123, 1, none⟩ = some (.string (⟨#[]⟩ : ByteArray)) := (blk_cell BK123.out 1).trans rfl; have hcz104_2 : w100.cell? ⟨gb123, 2, none⟩ = some (.int .i64 0) := (blk_cell BK123.out 2).trans rfl; have hfz104_0 := blk_frozen BK123.out 0; have hfz104_1 := blk_frozen BK123.out 1; have hfz104_2 := blk_frozen BK123.out 2; obtain ⟨Ao105, co105, eo105⟩ := Kd.R_slice HO_5.out; subst eo105; obtain ⟨Ao106, co106, eo106⟩ := Kd.R_slice HO_7.out; subst eo106; have p126 : 0 ≤ ((ji86) : Int) := of_decide_eq_true (by first | (with_reducible assumption) | assumption); have q126 : (ji86) < (t108.length : Int) := of_decide_eq_true (by first | (with_reducible assumption) | assumption); obtain ⟨ad126, e126, hx126_0, hx126_1, hx126_2⟩ := at_T36 (Kd.R_reads' HO_7.out).2.2 (ji86) p126 q126; cases e126; have hn126_0 : ad126.block ≠ gb123 := FHO_7_123.out _ rfl; have hn126_1 : ad126.block ≠ gb123 := FHO_7_123.out _ rfl; have hn126_2 : ad126.block ≠ gb123 := FHO_7_123.out _ rfl; replace hx126_0 := (cell_far (p := ⟨gb123, 0, none⟩) (by first | (rw [add_block]; exact hn126_0) | (show (Addr.add _ _).block ≠ _; rw [add_block]; exact hn126_0) | exact hn126_0) (.int .i64 0)).trans hx126_0; replace hx126_1 := (cell_far (p := ⟨gb123, 0, none⟩) (by first | (rw [add_block]; exact hn126_0) | (show (Addr.add _ _).block ≠ _; rw [add_block]; exact hn126_0) | exact hn126_0) (.int .i64 0)).trans hx126_1; replace hx126_2 := (cell_far (p := ⟨gb123, 0, none⟩) (by first | (rw [add_block]; exact hn126_0) | (show (Addr.add _ _).block ≠ _; rw [add_block]; exact hn126_0) | exact hn126_0) (.int .i64 0)).trans hx126_2; replace hx126_0 := (cell_far (p := ⟨gb123, 1, none⟩) (by first | (rw [add_block]; exact hn126_1) | (show (Addr.add _ _).block ≠ _; rw [add_block]; exact hn126_1) | exact hn126_1) (.string (⟨#[]⟩ : ByteArray))).trans hx126_0; replace hx126_1 := (cell_far (p := ⟨gb123, 1, none⟩) (by first | (rw [add_block]; exact hn126_1) | (show (Addr.add _ _).block ≠ _; rw [add_block]; exact hn126_1) | exact hn126_1) (.string (⟨#[]⟩ : ByteArray))).trans hx126_1; replace hx126_2 := (cell_far (p := ⟨gb123, 1, none⟩) (by first | (rw [add_block]; exact hn126_1) | (show (Addr.add _ _).block ≠ _; rw [add_block]; exact hn126_1) | exact hn126_1) (.string (⟨#[]⟩ : ByteArray))).trans hx126_2; replace hx126_0 := (cell_far (p := ⟨gb123, 2, none⟩) (by first | (rw [add_block]; exact hn126_2) | (show (Addr.add _ _).block ≠ _; rw [add_block]; exact hn126_2) | exact hn126_2) (.int .i64 0)).trans hx126_0; replace hx126_1 := (cell_far (p := ⟨gb123, 2, none⟩) (by first | (rw [add_block]; exact hn126_2) | (show (Addr.add _ _).block ≠ _; rw [add_block]; exact hn126_2) | exact hn126_2) (.int .i64 0)).trans hx126_1; replace hx126_2 := (cell_far (p := ⟨gb123, 2, none⟩) (by first | (rw [add_block]; exact hn126_2) | (show (Addr.add _ _).block ≠ _; rw [add_block]; exact hn126_2) | exact hn126_2) (.int .i64 0)).trans hx126_2; have hy126_0 := fun (n_ : Nat) => cell_shift (W' := ((((w100.drewN n_).setCell ⟨gb123, 0, none⟩ (.int .i64 0)).setCell ⟨gb123, 1, none⟩ (.string (⟨#[]⟩ : ByteArray))).setCell ⟨gb123, 2, none⟩ (.int .i64 0))) (by simp only [set_drewN, World.heap_drewN]) hx126_0; have hy126_1 := fun (n_ : Nat) => cell_shift (W' := ((((w100.drewN n_).setCell ⟨gb123, 0, none⟩ (.int .i64 0)).setCell ⟨gb123, 1, none⟩ (.string (⟨#[]⟩ : ByteArray))).setCell ⟨gb123, 2, none⟩ (.int .i64 0))) (by simp only [set_drewN, World.heap_drewN]) hx126_1; have hy126_2 := fun (n_ : Nat) => cell_shift (W' := ((((w100.drewN n_).setCell ⟨gb123, 0, none⟩ (.int .i64 0)).setCell ⟨gb123, 1, none⟩ (.string (⟨#[]⟩ : ByteArray))).setCell ⟨gb123, 2, none⟩ (.int .i64 0))) (by simp only [set_drewN, World.heap_drewN]) hx126_2; clear hn126_0; clear hn126_1; clear hn126_2; replace p126 := eq_true p126; replace q126 := eq_true q126; obtain ⟨Ao107, co107, eo107⟩ := Kd.R_slice HO_9.out; subst eo107; have p127 : 0 ≤ (x11_3 : Int) := of_decide_eq_true (by first | (with_reducible assumption) | assumption); have q127 : x11_3 < (t114.length : Int) := of_decide_eq_true (by first | (with_reducible assumption) | assumption); obtain ⟨ad127, e127, hx127_0, hx127_1, hx127_2⟩ := at_T36 (Kd.R_reads' HO_9.out).2.2 x11_3 p127 q127; cases e127; have hn127_0 : ad127.block ≠ gb123 := FHO_9_123.out _ rfl; have hn127_1 : ad127.block ≠ gb123 := FHO_9_123.out _ rfl; have hn127_2 : ad127.block ≠ gb123 := FHO_9_123.out _ rfl; have hn127_3 : ad127.block ≠ gb123 := FHO_9_123.out _ rfl; have hn127_4 : ad127.block ≠ gb123 := FHO_9_123.out _ rfl; have hn127_5 : ad127.block ≠ gb123 := FHO_9_123.out _ rfl; have hn127_6 : ad127.block ≠ gb123 := FHO_9_123.out _ rfl; replace hx127_0 := (cell_far (p := ⟨gb123, 0, none⟩) (by first | (rw [add_block]; exact hn127_0) | (show (Addr.add _ _).block ≠ _; rw [add_block]; exact hn127_0) | exact hn127_0) (.int .i64 0)).trans hx127_0; replace hx127_1 := (cell_far (p := ⟨gb123, 0, none⟩) (by first | (rw [add_block]; exact hn127_0) | (show (Addr.add _ _).block ≠ _; rw [add_block]; exact hn127_0) | exact hn127_0) (.int .i64 0)).trans hx127_1; replace hx127_2 := (cell_far (p := ⟨gb123, 0, none⟩) (by first | (rw [add_block]; exact hn127_0) | (show (Addr.add _ _).block ≠ _; rw [add_block]; exact hn127_0) | exact hn127_0) (.int .i64 0)).trans hx127_2; replace hx127_0 := (cell_far (p := ⟨gb123, 1, none⟩) (by first | (rw [add_block]; exact hn127_1) | (show (Addr.add _ _).block ≠ _; rw [add_block]; exact hn127_1) | exact hn127_1) (.string (⟨#[]⟩ : ByteArray))).trans hx127_0; replace hx127_1 := (cell_far (p := ⟨gb123, 1, none⟩) (by first | (rw [add_block]; exact hn127_1) | (show (Addr.add _ _).block ≠ _; rw [add_block]; exact hn127_1) | exact hn127_1) (.string (⟨#[]⟩ : ByteArray))).trans hx127_1; replace hx127_2 := (cell_far (p := ⟨gb123, 1, none⟩) (by first | (rw [add_block]; exact hn127_1) | (show (Addr.add _ _).block ≠ _; rw [add_block]; exact hn127_1) | exact hn127_1) (.string (⟨#[]⟩ : ByteArray))).trans hx127_2; replace hx127_0 := (cell_far (p := ⟨gb123, 2, none⟩) (by first | (rw [add_block]; exact hn127_2) | (show (Addr.add _ _).block ≠ _; rw [add_block]; exact hn127_2) | exact hn127_2) (.int .i64 0)).trans hx127_0; replace hx127_1 := (cell_far (p := ⟨gb123, 2, none⟩) (by first | (rw [add_block]; exact hn127_2) | (show (Addr.add _ _).block ≠ _; rw [add_block]; exact hn127_2) | exact hn127_2) (.int .i64 0)).trans hx127_1; replace hx127_2 := (cell_far (p := ⟨gb123, 2, none⟩) (by first | (rw [add_block]; exact hn127_2) | (show (Addr.add _ _).block ≠ _; rw [add_block]; exact hn127_2) | exact hn127_2) (.int .i64 0)).trans hx127_2; replace hx127_0 := (cell_far (p := ⟨gb123, 0, none⟩) (by first | (rw [add_block]; exact hn127_3) | (show (Addr.add _ _).block ≠ _; rw [add_block]; exact hn127_3) | exact hn127_3) (.int .i64 ((rd_T36 t108 (ji86)).f0))).trans hx127_0; replace hx127_1 := (cell_far (p := ⟨gb123, 0, none⟩) (by first | (rw [add_block]; exact hn127_3) | (show (Addr.add _ _).block ≠ _; rw [add_block]; exact hn127_3) | exact hn127_3) (.int .i64 ((rd_T36 t108 (ji86)).f0))).trans hx127_1; replace hx127_2 := (cell_far (p := ⟨gb123, 0, none⟩) (by first | (rw [add_block]; exact hn127_3) | (show (Addr.add _ _).block ≠ _; rw [add_block]; exact hn127_3) | exact hn127_3) (.int .i64 ((rd_T36 t108 (ji86)).f0))).trans hx127_2; replace hx127_0 := (cell_far (p := ⟨gb123, 1, none⟩) (by first | (rw [add_block]; exact hn127_4) | (show (Addr.add _ _).block ≠ _; rw [add_block]; exact hn127_4) | exact hn127_4) (.string ((rd_T36 t108 (ji86)).f1))).trans hx127_0; replace hx127_1 := (cell_far (p := ⟨gb123, 1, none⟩) (by first | (rw [add_block]; exact hn127_4) | (show (Addr.add _ _).block ≠ _; rw [add_block]; exact hn127_4) | exact hn127_4) (.string ((rd_T36 t108 (ji86)).f1))).trans hx127_1; replace hx127_2 := (cell_far (p := ⟨gb123, 1, none⟩) (by first | (rw [add_block]; exact hn127_4) | (show (Addr.add _ _).block ≠ _; rw [add_block]; exact hn127_4) | exact hn127_4) (.string ((rd_T36 t108 (ji86)).f1))).trans hx127_2; replace hx127_0 := (cell_far (p := ⟨gb123, 2, none⟩) (by first | (rw [add_block]; exact hn127_5) | (show (Addr.add _ _).block ≠ _; rw [add_block]; exact hn127_5) | exact hn127_5) (.int .i64 ((rd_T36 t108 (ji86)).f2))).trans hx127_0; replace hx127_1 := (cell_far (p := ⟨gb123, 2, none⟩) (by first | (rw [add_block]; exact hn127_5) | (show (Addr.add _ _).block ≠ _; rw [add_block]; exact hn127_5) | exact hn127_5) (.int .i64 ((rd_T36 t108 (ji86)).f2))).trans hx127_1; replace hx127_2 := (cell_far (p := ⟨gb123, 2, none⟩) (by first | (rw [add_block]; exact hn127_5) | (show (Addr.add _ _).block ≠ _; rw [add_block]; exact hn127_5) | exact hn127_5) (.int .i64 ((rd_T36 t108 (ji86)).f2))).trans hx127_2; replace hx127_0 := (cell_far (p := ⟨gb123, 2, none⟩) (by first | (rw [add_block]; exact hn127_6) | (show (Addr.add _ _).block ≠ _; rw [add_block]; exact hn127_6) | exact hn127_6) (.int .i64 (wrap64 (((rd_T36 t108 (ji86)).f2) + (wrap64 ((a0.size : Int) + 1)))))).trans hx127_0; replace hx127_1 := (cell_far (p := ⟨gb123, 2, none⟩) (by first | (rw [add_block]; exact hn127_6) | (show (Addr.add _ _).block ≠ _; rw [add_block]; exact hn127_6) | exact hn127_6) (.int .i64 (wrap64 (((rd_T36 t108 (ji86)).f2) + (wrap64 ((a0.size : Int) + 1)))))).trans hx127_1; replace hx127_2 := (cell_far (p := ⟨gb123, 2, none⟩) (by first | (rw [add_block]; exact hn127_6) | (show (Addr.add _ _).block ≠ _; rw [add_block]; exact hn127_6) | exact hn127_6) (.int .i64 (wrap64 (((rd_T36 t108 (ji86)).f2) + (wrap64 ((a0.size : Int) + 1)))))).trans hx127_2; have hy127_0 := fun (n_ : Nat) => cell_shift (W' := ((((((((w100.drewN n_).setCell ⟨gb123, 0, none⟩ (.int .i64 0)).setCell ⟨gb123, 1, none⟩ (.string (⟨#[]⟩ : ByteArray))).setCell ⟨gb123, 2, none⟩ (.int .i64 0)).setCell ⟨gb123, 0, none⟩ (.int .i64 ((rd_T36 t108 (ji86)).f0))).setCell ⟨gb123, 1, none⟩ (.string ((rd_T36 t108 (ji86)).f1))).setCell ⟨gb123, 2, none⟩ (.int .i64 ((rd_T36 t108 (ji86)).f2))).setCell ⟨gb123, 2, none⟩ (.int .i64 (wrap64 (((rd_T36 t108 (ji86)).f2) + (wrap64 ((a0.size : Int) + 1))))))) (by simp only [set_drewN, World.heap_drewN]) hx127_0; have hy127_1 := fun (n_ : Nat) => cell_shift (W' := ((((((((w100.drewN n_).setCell ⟨gb123, 0, none⟩ (.int .i64 0)).setCell ⟨gb123, 1, none⟩ (.string (⟨#[]⟩ : ByteArray))).setCell ⟨gb123, 2, none⟩ (.int .i64 0)).setCell ⟨gb123, 0, none⟩ (.int .i64 ((rd_T36 t108 (ji86)).f0))).setCell ⟨gb123, 1, none⟩ (.string ((rd_T36 t108 (ji86)).f1))).setCell ⟨gb123, 2, none⟩ (.int .i64 ((rd_T36 t108 (ji86)).f2))).setCell ⟨gb123, 2, none⟩ (.int .i64 (wrap64 (((rd_T36 t108 (ji86)).f2) + (wrap64 ((a0.size : Int) + 1))))))) (by simp only [set_drewN, World.heap_drewN]) hx127_1; have hy127_2 := fun (n_ : Nat) => cell_shift (W' := ((((((((w100.drewN n_).setCell ⟨gb123, 0, none⟩ (.int .i64 0)).setCell ⟨gb123, 1, none⟩ (.string (⟨#[]⟩ : ByteArray))).setCell ⟨gb123, 2, none⟩ (.int .i64 0)).setCell ⟨gb123, 0, none⟩ (.int .i64 ((rd_T36 t108 (ji86)).f0))).setCell ⟨gb123, 1, none⟩ (.string ((rd_T36 t108 (ji86)).f1))).setCell ⟨gb123, 2, none⟩ (.int .i64 ((rd_T36 t108 (ji86)).f2))).setCell ⟨gb123, 2, none⟩ (.int .i64 (wrap64 (((rd_T36 t108 (ji86)).f2) + (wrap64 ((a0.size : Int) + 1))))))) (by simp only [set_drewN, World.heap_drewN]) hx127_2; clear hn127_0; clear hn127_1; clear hn127_2; clear hn127_3; clear hn127_4; clear hn127_5; clear hn127_6; replace p127 := eq_true p127; replace q127 := eq_true q127))
                                            have BKc := (blk_put (cs' := #[.int .i64 (rd_T36 t108 (ji86)).f0, .string (rd_T36 t108 (ji86)).f1, .int .i64 (rd_T36 t108 (ji86)).f2]) (blk_put (cs' := #[.int .i64 (rd_T36 t108 (ji86)).f0, .string (rd_T36 t108 (ji86)).f1, .int .i64 0]) (blk_put (cs' := #[.int .i64 (rd_T36 t108 (ji86)).f0, .string (⟨#[]⟩ : ByteArray), .int .i64 0]) (blk_put (cs' := #[.int .i64 0, .string (⟨#[]⟩ : ByteArray), .int .i64 0]) (blk_put (cs' := #[.int .i64 0, .string (⟨#[]⟩ : ByteArray), .int .i64 0]) (blk_put (cs' := #[.int .i64 0, .string (⟨#[]⟩ : ByteArray), .int .i64 0]) BK123.out 0 (.int .i64 0) rfl) 1 (.string (⟨#[]⟩ : ByteArray)) rfl) 2 (.int .i64 0) rfl) 0 (.int .i64 (rd_T36 t108 (ji86)).f0) rfl) 1 (.string (rd_T36 t108 (ji86)).f1) rfl) 2 (.int .i64 (rd_T36 t108 (ji86)).f2) rfl)
                                            have hv0 := (blk_cell BKc 0).trans rfl
                                            have hv1 := (blk_cell BKc 1).trans rfl
                                            have hv2 := (blk_cell BKc 2).trans rfl
                                            go_upto_region 20 with (fail)
                                            have BKd := blk_put (cs' := #[.int .i64 (rd_T36 t108 (ji86)).f0, .string (rd_T36 t108 (ji86)).f1, .int .i64 (wrap64 ((rd_T36 t108 (ji86)).f2 + wrap64 ((a0.size : Int) + 1)))]) BKc 2 (.int .i64 (wrap64 ((rd_T36 t108 (ji86)).f2 + wrap64 ((a0.size : Int) + 1)))) rfl
                                            have hu0 := (blk_cell BKd 0).trans rfl
                                            have hu1 := (blk_cell BKd 1).trans rfl
                                            have hu2 := (blk_cell BKd 2).trans rfl
                                            repeat (go_quiet (fail); try go_wp2)
                                            go_roundg kj64
                                            case measure => have := HJ10.out; have := HJ49.out; have := HK3.out; have := HJ64.out; omega
                                            case rel => exact ⟨(wrap64 (x11_3 + 1)), (by first | rfl | (simp; done) | (simp [*]; done)), H', ⟨by have := HJ10.out; have := HJ49.out; have := HK3.out; have := HJ64.out; omega⟩, ⟨by (with_reducible repeat (first | apply Kd.R_alloc | apply Kd.R_drewN | apply Kd.R_drew)); exact Kd.R_mono (Kd.R_far (p := ⟨gb123, 2, none⟩) (Kd.R_far (p := ⟨gb123, 2, none⟩) (Kd.R_far (p := ⟨gb123, 1, none⟩) (Kd.R_far (p := ⟨gb123, 0, none⟩) (Kd.R_far (p := ⟨gb123, 2, none⟩) (Kd.R_far (p := ⟨gb123, 1, none⟩) (Kd.R_far (p := ⟨gb123, 0, none⟩) (Kd.R_mono HO_5.out (fun k_ hk => (⟨hk, hk.2⟩ : _ ∧ k_ ≠ gb123))) (fun _ hk => hk.2) (.int .i64 0)) (fun _ hk => hk.2) (.string (⟨#[]⟩ : ByteArray))) (fun _ hk => hk.2) (.int .i64 0)) (fun _ hk => hk.2) (.int .i64 ((rd_T36 t108 (ji86)).f0))) (fun _ hk => hk.2) (.string ((rd_T36 t108 (ji86)).f1))) (fun _ hk => hk.2) (.int .i64 ((rd_T36 t108 (ji86)).f2))) (fun _ hk => hk.2) (.int .i64 (wrap64 (((rd_T36 t108 (ji86)).f2) + (wrap64 ((a0.size : Int) + 1)))))) (fun _ hk => ⟨hk.1.1.1, hk.1.1.2⟩)⟩, ⟨by (with_reducible repeat (first | apply Kd.R_alloc | apply Kd.R_drewN | apply Kd.R_drew)); exact Kd.R_mono (Kd.R_far (p := ⟨gb123, 2, none⟩) (Kd.R_far (p := ⟨gb123, 2, none⟩) (Kd.R_far (p := ⟨gb123, 1, none⟩) (Kd.R_far (p := ⟨gb123, 0, none⟩) (Kd.R_far (p := ⟨gb123, 2, none⟩) (Kd.R_far (p := ⟨gb123, 1, none⟩) (Kd.R_far (p := ⟨gb123, 0, none⟩) (Kd.R_mono HO_7.out (fun k_ hk => (⟨hk, hk.2⟩ : _ ∧ k_ ≠ gb123))) (fun _ hk => hk.2) (.int .i64 0)) (fun _ hk => hk.2) (.string (⟨#[]⟩ : ByteArray))) (fun _ hk => hk.2) (.int .i64 0)) (fun _ hk => hk.2) (.int .i64 ((rd_T36 t108 (ji86)).f0))) (fun _ hk => hk.2) (.string ((rd_T36 t108 (ji86)).f1))) (fun _ hk => hk.2) (.int .i64 ((rd_T36 t108 (ji86)).f2))) (fun _ hk => hk.2) (.int .i64 (wrap64 (((rd_T36 t108 (ji86)).f2) + (wrap64 ((a0.size : Int) + 1)))))) (fun _ hk => ⟨hk.1.1.1, hk.1.1.2⟩)⟩, ⟨by (with_reducible repeat (first | apply Kd.R_alloc | apply Kd.R_drewN | apply Kd.R_drew)); exact Kd.R_mono (Kd.R_far (p := ⟨gb123, 2, none⟩) (Kd.R_far (p := ⟨gb123, 2, none⟩) (Kd.R_far (p := ⟨gb123, 1, none⟩) (Kd.R_far (p := ⟨gb123, 0, none⟩) (Kd.R_far (p := ⟨gb123, 2, none⟩) (Kd.R_far (p := ⟨gb123, 1, none⟩) (Kd.R_far (p := ⟨gb123, 0, none⟩) (Kd.R_mono HO_9.out (fun k_ hk => (⟨hk, hk.2⟩ : _ ∧ k_ ≠ gb123))) (fun _ hk => hk.2) (.int .i64 0)) (fun _ hk => hk.2) (.string (⟨#[]⟩ : ByteArray))) (fun _ hk => hk.2) (.int .i64 0)) (fun _ hk => hk.2) (.int .i64 ((rd_T36 t108 (ji86)).f0))) (fun _ hk => hk.2) (.string ((rd_T36 t108 (ji86)).f1))) (fun _ hk => hk.2) (.int .i64 ((rd_T36 t108 (ji86)).f2))) (fun _ hk => hk.2) (.int .i64 (wrap64 (((rd_T36 t108 (ji86)).f2) + (wrap64 ((a0.size : Int) + 1)))))) (fun _ hk => ⟨hk.1.1.1, hk.1.1.2⟩)⟩, ⟨by (with_reducible repeat (first | refine blk_drewN ?_ _ | refine blk_drew ?_ | refine blk_alloc ?_ _)); refine blk_far ?_ NB107_123.out _; (with_reducible repeat (first | refine blk_drewN ?_ _ | refine blk_drew ?_ | refine blk_alloc ?_ _)); refine blk_far ?_ NB107_123.out _; (with_reducible repeat (first | refine blk_drewN ?_ _ | refine blk_drew ?_ | refine blk_alloc ?_ _)); refine blk_far ?_ NB107_123.out _; (with_reducible repeat (first | refine blk_drewN ?_ _ | refine blk_drew ?_ | refine blk_alloc ?_ _)); refine blk_far ?_ NB107_123.out _; (with_reducible repeat (first | refine blk_drewN ?_ _ | refine blk_drew ?_ | refine blk_alloc ?_ _)); refine blk_far ?_ NB107_123.out _; (with_reducible repeat (first | refine blk_drewN ?_ _ | refine blk_drew ?_ | refine blk_alloc ?_ _)); refine blk_far ?_ NB107_123.out _; (with_reducible repeat (first | refine blk_drewN ?_ _ | refine blk_drew ?_ | refine blk_alloc ?_ _)); refine blk_far ?_ NB107_123.out _; (with_reducible repeat (first | refine blk_drewN ?_ _ | refine blk_drew ?_ | refine blk_alloc ?_ _)); exact BK107.out⟩, ⟨by (with_reducible repeat (first | refine blk_drewN ?_ _ | refine blk_drew ?_ | refine blk_alloc ?_ _)); refine blk_far ?_ NB113_123.out _; (with_reducible repeat (first | refine blk_drewN ?_ _ | refine blk_drew ?_ | refine blk_alloc ?_ _)); refine blk_far ?_ NB113_123.out _; (with_reducible repeat (first | refine blk_drewN ?_ _ | refine blk_drew ?_ | refine blk_alloc ?_ _)); refine blk_far ?_ NB113_123.out _; (with_reducible repeat (first | refine blk_drewN ?_ _ | refine blk_drew ?_ | refine blk_alloc ?_ _)); refine blk_far ?_ NB113_123.out _; (with_reducible repeat (first | refine blk_drewN ?_ _ | refine blk_drew ?_ | refine blk_alloc ?_ _)); refine blk_far ?_ NB113_123.out _; (with_reducible repeat (first | refine blk_drewN ?_ _ | refine blk_drew ?_ | refine blk_alloc ?_ _)); refine blk_far ?_ NB113_123.out _; (with_reducible repeat (first | refine blk_drewN ?_ _ | refine blk_drew ?_ | refine blk_alloc ?_ _)); refine blk_far ?_ NB113_123.out _; (with_reducible repeat (first | refine blk_drewN ?_ _ | refine blk_drew ?_ | refine blk_alloc ?_ _)); exact BK113.out⟩, ⟨by (with_reducible repeat (first | refine blk_drewN ?_ _ | refine blk_drew ?_ | refine blk_alloc ?_ _)); refine blk_far ?_ NB119_123.out _; (with_reducible repeat (first | refine blk_drewN ?_ _ | refine blk_drew ?_ | refine blk_alloc ?_ _)); refine blk_far ?_ NB119_123.out _; (with_reducible repeat (first | refine blk_drewN ?_ _ | refine blk_drew ?_ | refine blk_alloc ?_ _)); refine blk_far ?_ NB119_123.out _; (with_reducible repeat (first | refine blk_drewN ?_ _ | refine blk_drew ?_ | refine blk_alloc ?_ _)); refine blk_far ?_ NB119_123.out _; (with_reducible repeat (first | refine blk_drewN ?_ _ | refine blk_drew ?_ | refine blk_alloc ?_ _)); refine blk_far ?_ NB119_123.out _; (with_reducible repeat (first | refine blk_drewN ?_ _ | refine blk_drew ?_ | refine blk_alloc ?_ _)); refine blk_far ?_ NB119_123.out _; (with_reducible repeat (first | refine blk_drewN ?_ _ | refine blk_drew ?_ | refine blk_alloc ?_ _)); refine blk_far ?_ NB119_123.out _; (with_reducible repeat (first | refine blk_drewN ?_ _ | refine blk_drew ?_ | refine blk_alloc ?_ _)); exact BK119.out⟩, ⟨by repeat (first | (with_reducible first | exact HB.out | apply below_alloc | apply pw_below_drewN | apply below_drew1 | refine below_set ?_ GE107.out | refine below_set ?_ GE113.out | refine below_set ?_ GE119.out | refine below_set ?_ GE123.out) | exact HB.out)⟩⟩
                                        · rw [if_neg c90] at H
                                          exact absurd H (by simp)
                                      · rw [if_neg c89] at H
                                        exact absurd H (by simp)
                                    · rw [if_neg c88] at H
                                      exact absurd H (by simp)
                                  · rw [if_neg c87] at H
                                    exact absurd H (by simp)
                              · replace c67 := Bool.eq_false_iff.mpr c67
                                subst c67
                                have H1 : ((topiaristlaw01_wakes.f).bind fun t122 => (some t122)) = some r := by rw [if_neg (show ¬ (false = true) by decide)] at H; exact H
                                clear H
                                have H := H1
                                clear H1
                                replace H := Option.bind_eq_some_iff.mp H
                                obtain ⟨t122, A1080, H⟩ := H
                                replace H : (some t122) = some r := H
                                have A108 := Aside0.mk A1080
                                clear A1080
                                obtain rfl := Option.some.inj H
                                go_wp2_with (first | (go_at_call 9; (with_reducible refine (topiaristlaw01_wakes.calls  t122 _ A108.out).mono ?_); rintro e w109 ⟨rfl, hb⟩; have n0_ := Aside0.mk (Kd.R_below (by (with_reducible repeat (first | apply Kd.R_alloc | apply Kd.R_drewN | apply Kd.R_drew)); exact HO_5.out) hb); have n1_ := Aside0.mk (Kd.R_below (by (with_reducible repeat (first | apply Kd.R_alloc | apply Kd.R_drewN | apply Kd.R_drew)); exact HO_7.out) hb); have n2_ := Aside0.mk (Kd.R_below (by (with_reducible repeat (first | apply Kd.R_alloc | apply Kd.R_drewN | apply Kd.R_drew)); exact HO_9.out) hb); have n3_ := Aside0.mk (blk_below (g := gb107) (o := .cells #[.int .i64 t105, .int .i64 t106] 26 (0, 0)) (by (with_reducible repeat (first | refine blk_drewN ?_ _ | refine blk_drew ?_ | refine blk_alloc ?_ _)); exact BK107.out) hb); have n4_ := Aside0.mk (blk_below (g := gb113) (o := .cells #[.int .i64 t111, .int .i64 t112] 26 (0, 0)) (by (with_reducible repeat (first | refine blk_drewN ?_ _ | refine blk_drew ?_ | refine blk_alloc ?_ _)); exact BK113.out) hb); have n5_ := Aside0.mk (blk_below (g := gb119) (o := .cells #[.int .i64 t117, .int .i64 t118] 26 (0, 0)) (by (with_reducible repeat (first | refine blk_drewN ?_ _ | refine blk_drew ?_ | refine blk_alloc ?_ _)); exact BK119.out) hb); have n6_ := Aside0.mk (below_step (by repeat (first | (with_reducible first | exact HB.out | apply below_alloc | apply pw_below_drewN | apply below_drew1 | refine below_set ?_ GE107.out | refine below_set ?_ GE113.out | refine below_set ?_ GE119.out) | exact HB.out)) hb); clear HO_5; clear HO_7; clear HO_9; clear BK107; clear BK113; clear BK119; clear HB; have HO_5 := n0_; have HO_7 := n1_; have HO_9 := n2_; have BK107 := n3_; have BK113 := n4_; have BK119 := n5_; have HB := n6_; clear n0_ n1_ n2_ n3_ n4_ n5_ n6_; (try clear hb); (try clear hb2); (try clear hk); (try clear hi)))
                                repeat (go_quiet (fail); try go_wp2)
                                go_ret
                                exact ⟨by first | rfl | (simp [errW_none, errW_some] <;> rfl) | (simp [*, errW_none, errW_some] <;> rfl), by repeat (first | (with_reducible first | exact HB.out | apply below_alloc | apply pw_below_drewN | apply below_drew1 | refine below_set ?_ GE107.out | refine below_set ?_ GE113.out | refine below_set ?_ GE119.out) | exact HB.out)⟩
              · rw [if_neg c49] at H
                have c49b0 : (t111 == 0) = false := beq_eq_false_iff_ne.mpr c49
                have c49b1 : (t111 != 0) = true := bne_iff_ne.mpr c49
                by_cases c110 : (t117 == t111 && (t118 == (wrap64 ((wrap64 (t112 + (a0.size : Int))) + 1)))) = true
                · rw [if_pos c110] at H
                  have c110b0 : (t117 == t111 && (t118 == (wrap64 ((wrap64 (t112 + (a0.size : Int))) + 1)))) = true := c110
                  (try (have c110b1 : decide (t117 = t111 && (t118 == (wrap64 ((wrap64 (t112 + (a0.size : Int))) + 1)))) = true := by simpa using c110))
                  (try (have c110b2 : (t117 == t111 && (t118 == (wrap64 ((wrap64 (t112 + (a0.size : Int))) + 1)))) = true := by simpa using c110))
                  clear c110
                  by_cases c111 : (t114.length : Int) = 0
                  · rw [if_pos c111] at H
                    have c111b0 : ((t114.length : Int) == 0) = true := beq_iff_eq.mpr c111
                    have c111b1 : ((t114.length : Int) != 0) = false := bne_eq_false_iff_eq.mpr c111
                    clear c111
                    replace H := Option.bind_eq_some_iff.mp H
                    obtain ⟨t121, A1120, H⟩ := H
                    replace H : (some t121) = some r := H
                    have A112 := Aside0.mk A1120
                    clear A1120
                    obtain rfl := Option.some.inj H
                    have hnb113 := NB113_107.out
                    have hnc113 := NB107_113.out
                    have hnb114 := NB113_119.out
                    have hnc114 := NB119_113.out
                    have hcz115_0 : wc.cell? ⟨gb113, 0, none⟩ = some (.int .i64 t111) := (blk_cell BK113.out 0).trans rfl
                    have hcz115_1 : wc.cell? ⟨gb113, 1, none⟩ = some (.int .i64 t112) := (blk_cell BK113.out 1).trans rfl
                    have hfz115_0 := blk_frozen BK113.out 0
                    have hfz115_1 := blk_frozen BK113.out 1
                    have hnb116 := NB119_107.out
                    have hnc116 := NB107_119.out
                    have hcz117_0 : wc.cell? ⟨gb119, 0, none⟩ = some (.int .i64 t117) := (blk_cell BK119.out 0).trans rfl
                    have hcz117_1 : wc.cell? ⟨gb119, 1, none⟩ = some (.int .i64 t118) := (blk_cell BK119.out 1).trans rfl
                    have hfz117_0 := blk_frozen BK119.out 0
                    have hfz117_1 := blk_frozen BK119.out 1
                    obtain ⟨Ao118, co118, eo118⟩ := Kd.R_slice HO_9.out
                    subst eo118
                    go_wp2_with (first | (go_at_call 9; (with_reducible refine (topiaristlaw01_wakes.calls  t121 _ A112.out).mono ?_); rintro e w119 ⟨rfl, hb⟩; have n0_ := Aside0.mk (Kd.R_below (by (with_reducible repeat (first | apply Kd.R_alloc | apply Kd.R_drewN | apply Kd.R_drew)); exact HO_5.out) hb); have n1_ := Aside0.mk (Kd.R_below (by (with_reducible repeat (first | apply Kd.R_alloc | apply Kd.R_drewN | apply Kd.R_drew)); exact HO_7.out) hb); have n2_ := Aside0.mk (Kd.R_below (by (with_reducible repeat (first | apply Kd.R_alloc | apply Kd.R_drewN | apply Kd.R_drew)); exact HO_9.out) hb); have n3_ := Aside0.mk (blk_below (g := gb107) (o := .cells #[.int .i64 t105, .int .i64 t106] 26 (0, 0)) (by (with_reducible repeat (first | refine blk_drewN ?_ _ | refine blk_drew ?_ | refine blk_alloc ?_ _)); exact BK107.out) hb); have n4_ := Aside0.mk (blk_below (g := gb113) (o := .cells #[.int .i64 t111, .int .i64 t112] 26 (0, 0)) (by (with_reducible repeat (first | refine blk_drewN ?_ _ | refine blk_drew ?_ | refine blk_alloc ?_ _)); exact BK113.out) hb); have n5_ := Aside0.mk (blk_below (g := gb119) (o := .cells #[.int .i64 t117, .int .i64 t118] 26 (0, 0)) (by (with_reducible repeat (first | refine blk_drewN ?_ _ | refine blk_drew ?_ | refine blk_alloc ?_ _)); exact BK119.out) hb); have n6_ := Aside0.mk (below_step (by repeat (first | (with_reducible first | exact HB.out | apply below_alloc | apply pw_below_drewN | apply below_drew1 | refine below_set ?_ GE107.out | refine below_set ?_ GE113.out | refine below_set ?_ GE119.out) | exact HB.out)) hb); clear HO_5; clear HO_7; clear HO_9; clear BK107; clear BK113; clear BK119; clear HB; have HO_5 := n0_; have HO_7 := n1_; have HO_9 := n2_; have BK107 := n3_; have BK113 := n4_; have BK119 := n5_; have HB := n6_; clear n0_ n1_ n2_ n3_ n4_ n5_ n6_; (try clear hb); (try clear hb2); (try clear hk); (try clear hi)))
                    repeat (go_quiet (fail); try go_wp2)
                    go_ret
                    exact ⟨by first | rfl | (simp [errW_none, errW_some] <;> rfl) | (simp [*, errW_none, errW_some] <;> rfl), by repeat (first | (with_reducible first | exact HB.out | apply below_alloc | apply pw_below_drewN | apply below_drew1 | refine below_set ?_ GE107.out | refine below_set ?_ GE113.out | refine below_set ?_ GE119.out) | exact HB.out)⟩
                  · rw [if_neg c111] at H
                    have c111b0 : ((t114.length : Int) == 0) = false := beq_eq_false_iff_ne.mpr c111
                    have c111b1 : ((t114.length : Int) != 0) = true := bne_iff_ne.mpr c111
                    have c111b2 : ¬ (t114 = []) := fun h_ => c111 (by rw [h_]; rfl)
                    obtain rfl := Option.some.inj H
                    have hnb120 := NB113_107.out
                    have hnc120 := NB107_113.out
                    have hnb121 := NB113_119.out
                    have hnc121 := NB119_113.out
                    have hcz122_0 : wc.cell? ⟨gb113, 0, none⟩ = some (.int .i64 t111) := (blk_cell BK113.out 0).trans rfl
                    have hcz122_1 : wc.cell? ⟨gb113, 1, none⟩ = some (.int .i64 t112) := (blk_cell BK113.out 1).trans rfl
                    have hfz122_0 := blk_frozen BK113.out 0
                    have hfz122_1 := blk_frozen BK113.out 1
                    have hnb123 := NB119_107.out
                    have hnc123 := NB107_119.out
                    have hcz124_0 : wc.cell? ⟨gb119, 0, none⟩ = some (.int .i64 t117) := (blk_cell BK119.out 0).trans rfl
                    have hcz124_1 : wc.cell? ⟨gb119, 1, none⟩ = some (.int .i64 t118) := (blk_cell BK119.out 1).trans rfl
                    have hfz124_0 := blk_frozen BK119.out 0
                    have hfz124_1 := blk_frozen BK119.out 1
                    obtain ⟨Ao125, co125, eo125⟩ := Kd.R_slice HO_9.out
                    subst eo125
                    go_wp2
                    repeat (go_quiet (fail); try go_wp2)
                    go_ret
                    exact ⟨by first | rfl | (simp [errW_none, errW_some] <;> rfl) | (simp [*, errW_none, errW_some] <;> rfl), by repeat (first | (with_reducible first | exact HB.out | apply below_alloc | apply pw_below_drewN | apply below_drew1 | refine below_set ?_ GE107.out | refine below_set ?_ GE113.out | refine below_set ?_ GE119.out) | exact HB.out)⟩
                · rw [if_neg c110] at H
                  have c110b0 : (t117 == t111 && (t118 == (wrap64 ((wrap64 (t112 + (a0.size : Int))) + 1)))) = false := by simpa using c110
                  (try (have c110b1 : decide (t117 = t111 && (t118 == (wrap64 ((wrap64 (t112 + (a0.size : Int))) + 1)))) = false := by simpa using c110))
                  (try (have c110b2 : (t117 == t111 && (t118 == (wrap64 ((wrap64 (t112 + (a0.size : Int))) + 1)))) = false := by simpa using c110))
                  (try (have c110b3 : ¬ (t117 = t111 && (t118 == (wrap64 ((wrap64 (t112 + (a0.size : Int))) + 1)))) := by simpa using c110))
                  clear c110
                  obtain rfl := Option.some.inj H
                  have hnb126 := NB113_107.out
                  have hnc126 := NB107_113.out
                  have hnb127 := NB113_119.out
                  have hnc127 := NB119_113.out
                  have hcz128_0 : wc.cell? ⟨gb113, 0, none⟩ = some (.int .i64 t111) := (blk_cell BK113.out 0).trans rfl
                  have hcz128_1 : wc.cell? ⟨gb113, 1, none⟩ = some (.int .i64 t112) := (blk_cell BK113.out 1).trans rfl
                  have hfz128_0 := blk_frozen BK113.out 0
                  have hfz128_1 := blk_frozen BK113.out 1
                  have hnb129 := NB119_107.out
                  have hnc129 := NB107_119.out
                  have hcz130_0 : wc.cell? ⟨gb119, 0, none⟩ = some (.int .i64 t117) := (blk_cell BK119.out 0).trans rfl
                  have hcz130_1 : wc.cell? ⟨gb119, 1, none⟩ = some (.int .i64 t118) := (blk_cell BK119.out 1).trans rfl
                  have hfz130_0 := blk_frozen BK119.out 0
                  have hfz130_1 := blk_frozen BK119.out 1
                  go_wp2
                  repeat (go_quiet (fail); try go_wp2)
                  go_ret
                  exact ⟨by first | rfl | (simp [errW_none, errW_some] <;> rfl) | (simp [*, errW_none, errW_some] <;> rfl), by repeat (first | (with_reducible first | exact HB.out | apply below_alloc | apply pw_below_drewN | apply below_drew1 | refine below_set ?_ GE107.out | refine below_set ?_ GE113.out | refine below_set ?_ GE119.out) | exact HB.out)⟩
      · rw [if_neg c9] at H
        exact absurd H (by simp)
    · rw [if_neg c8] at H
      exact absurd H (by simp)

/-- THE ONE PURE STATEMENT of topiaristlaw01_LexRow: yours. -/
def topiaristlaw01_LexRow.Pure : Prop := ∀ (a0 : ByteArray) (a1 : ByteArray), a0.size ≤ 140737488351232 → a1.size ≤ 140737488351232 → ∃ k, topiaristlaw01_LexRow.f k a0 a1 = some true
theorem topiaristlaw01_LexRow.walk (P : topiaristlaw01_LexRow.Pure) (a0 : ByteArray) (a1 : ByteArray) (w : World) (w0 : a0.size ≤ 140737488351232) (w1 : a1.size ≤ 140737488351232) :
    Calls Try.prog 5 #[.string a0, .string a1] w fun e w' => e = .returned (.bool true) ∧ Below w.heap.size w w' := by
  obtain ⟨k, h⟩ := P a0 a1 w0 w1
  refine (topiaristlaw01_LexRow.calls k a0 a1 true w h).mono ?_
  rintro e w' ⟨rfl, hd⟩
  exact ⟨rfl, hd⟩

end Go.Proofs.Ytfbncmcibfkfiaa.P
