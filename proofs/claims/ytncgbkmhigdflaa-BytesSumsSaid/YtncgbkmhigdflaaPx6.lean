-- Written by this session's own program wip/gen.py; Lean checks it.
import Derived.Test.YtncgbkmhigdflaaPx0
import Derived.Test.YtncgbkmhigdflaaPx7
import Derived.Test.YtncgbkmhigdflaaPx19
import Derived.Test.YtncgbkmhigdflaaPx21
namespace Go.Proofs.Ytncgbkmhigdflaa.P
open Go.RowKit Go.Proofs.YtncgbkmhigdflaaW.PrintWords Go.Proofs.YtncgbkmhigdflaaW.PrintLast Go.Proofs.YtncgbkmhigdflaaW.PrintMore
attribute [local go_sem] max2_int min2_int max_two min_two max_three min_three max_four min_four   -- for this text's walks alone
set_option linter.unusedVariables false
set_option linter.unusedSimpArgs false

/-! ### topiaristlaw20_BytesSums: function 6 -/
mutual
def topiaristlaw20_BytesSums.j0 : Nat → List Int → Int → Int → Bool → Option (Bool)
  | 0, _, _, _, _ => none
  | k + 1, x0, x1, x2, x20 => if x20 = true then ((topiaristlaw20_wakes.f k).bind fun t101 => (some t101)) else ((some (([] : List Int) : List Int)).bind fun y102 => (if y102.length + x0.length < 140737488355328 then ((some (y102 ++ x0 : List Int)).bind fun y105 => (if (y105.length : Int) = 0 then (none) else (if 0 ≤ (Int.tmod (wrap64 (x1)) (y105.length : Int)) then (if (Int.tmod (wrap64 (x1)) (y105.length : Int)) < (y105.length : Int) then ((bytes_Sum.f k x0).bind fun t110 => ((bytes_Sum.f k (y105.set ((Int.tmod (wrap64 (x1)) (y105.length : Int)) : Int).toNat (Go.bits .xor .u8 (rd y105 (Int.tmod (wrap64 (x1)) (y105.length : Int))) x2))).bind fun t111 => (if ((t110 == t111) != (x2 == 0)) = true then (some false) else ((bytes_Seal.f k x0).bind fun t112 => (if (t112.length : Int) = (wrap64 ((x0.length : Int) + 4)) then ((bytes_Sum.f k x0).bind fun t115 => (topiaristlaw20_BytesSums.l0 k x0 t112 t115 0)) else (some false)))))) else (none)) else (none)))) else (none)))
def topiaristlaw20_BytesSums.l0 : Nat → List Int → List Int → Int → Int → Option (Bool)
  | 0, _, _, _, _ => none
  | k + 1, x0, x8, x9, x10 => if x10 < 4 then (if 0 ≤ (wrap64 ((x0.length : Int) + x10)) then (if (wrap64 ((x0.length : Int) + x10)) < (x8.length : Int) then (if 0 ≤ (IntKind.u64.wrap (wrap64 (8 * x10))) then (if (rd x8 (wrap64 ((x0.length : Int) + x10))) = ((shr .u32 x9 (IntKind.u64.wrap (wrap64 (8 * x10)))) % 256) then (topiaristlaw20_BytesSums.l0 k x0 x8 x9 (wrap64 (x10 + 1))) else (some false)) else (none)) else (none)) else (none)) else (topiaristlaw20_BytesSums.l1 k x0 x9 7 0)
def topiaristlaw20_BytesSums.l1 : Nat → List Int → Int → Int → Int → Option (Bool)
  | 0, _, _, _, _ => none
  | k + 1, x0, x9, x11, x12 => if x12 < (x0.length : Int) then (if 0 ≤ x12 then (topiaristlaw20_BytesSums.l1 k x0 x9 ((((((31 * x11) % 4294967296) + ((rd x0 x12) % 4294967296)) % 4294967296) + 1) % 4294967296) (wrap64 (x12 + 1))) else (none)) else (if x11 = x9 then ((topiaristlaw20_wakes.f k).bind fun t118 => (some t118)) else (some false))
end
def topiaristlaw20_BytesSums.f (k : Nat) (l0 : List Int) (a1 : Int) (a2 : Int) : Option (Bool) := if (l0.length : Int) > 1000 then (topiaristlaw20_BytesSums.j0 k l0 a1 a2 true) else (topiaristlaw20_BytesSums.j0 k l0 a1 a2 ((l0.length : Int) == 0))
theorem topiaristlaw20_BytesSums.mono_l : ∀ k, (∀ y0 y1 y2 y3, LeO (topiaristlaw20_BytesSums.j0 k y0 y1 y2 y3) (topiaristlaw20_BytesSums.j0 (k + 1) y0 y1 y2 y3)) ∧ (∀ y0 y1 y2 y3, LeO (topiaristlaw20_BytesSums.l0 k y0 y1 y2 y3) (topiaristlaw20_BytesSums.l0 (k + 1) y0 y1 y2 y3)) ∧ (∀ y0 y1 y2 y3, LeO (topiaristlaw20_BytesSums.l1 k y0 y1 y2 y3) (topiaristlaw20_BytesSums.l1 (k + 1) y0 y1 y2 y3))
  | 0 => ⟨fun _ _ _ _ r h => by simp [topiaristlaw20_BytesSums.j0] at h, fun _ _ _ _ r h => by simp [topiaristlaw20_BytesSums.l0] at h, fun _ _ _ _ r h => by simp [topiaristlaw20_BytesSums.l1] at h⟩
  | k + 1 => by
    obtain ⟨ih0, ih1, ih2⟩ := topiaristlaw20_BytesSums.mono_l k
    refine ⟨?_, ?_, ?_⟩
    · intro y0 y1 y2 y3
      unfold topiaristlaw20_BytesSums.j0
      repeat' first
      | (with_reducible exact ih0 _ _ _ _)
      | (with_reducible exact ih1 _ _ _ _)
      | (with_reducible exact ih2 _ _ _ _)
      | (with_reducible exact bytes_Seal.mono _ _)
      | (with_reducible exact bytes_Sum.mono _ _)
      | (with_reducible exact topiaristlaw20_wakes.mono _)
      | (with_reducible exact LeO.refl _)
      | (with_reducible exact LeO.none _)
      | (with_reducible refine LeO.ite ?_ ?_)
      | (with_reducible refine LeO.bind ?_ (fun _ => ?_))
      | exact ih0 _ _ _ _
      | exact ih1 _ _ _ _
      | exact ih2 _ _ _ _
      | exact bytes_Seal.mono _ _
      | exact bytes_Sum.mono _ _
      | exact topiaristlaw20_wakes.mono _
      | exact LeO.none _
      | refine LeO.ite ?_ ?_
      | refine LeO.bind ?_ (fun _ => ?_)
    · intro y0 y1 y2 y3
      unfold topiaristlaw20_BytesSums.l0
      repeat' first
      | (with_reducible exact ih0 _ _ _ _)
      | (with_reducible exact ih1 _ _ _ _)
      | (with_reducible exact ih2 _ _ _ _)
      | (with_reducible exact bytes_Seal.mono _ _)
      | (with_reducible exact bytes_Sum.mono _ _)
      | (with_reducible exact topiaristlaw20_wakes.mono _)
      | (with_reducible exact LeO.refl _)
      | (with_reducible exact LeO.none _)
      | (with_reducible refine LeO.ite ?_ ?_)
      | (with_reducible refine LeO.bind ?_ (fun _ => ?_))
      | exact ih0 _ _ _ _
      | exact ih1 _ _ _ _
      | exact ih2 _ _ _ _
      | exact bytes_Seal.mono _ _
      | exact bytes_Sum.mono _ _
      | exact topiaristlaw20_wakes.mono _
      | exact LeO.none _
      | refine LeO.ite ?_ ?_
      | refine LeO.bind ?_ (fun _ => ?_)
    · intro y0 y1 y2 y3
      unfold topiaristlaw20_BytesSums.l1
      repeat' first
      | (with_reducible exact ih0 _ _ _ _)
      | (with_reducible exact ih1 _ _ _ _)
      | (with_reducible exact ih2 _ _ _ _)
      | (with_reducible exact bytes_Seal.mono _ _)
      | (with_reducible exact bytes_Sum.mono _ _)
      | (with_reducible exact topiaristlaw20_wakes.mono _)
      | (with_reducible exact LeO.refl _)
      | (with_reducible exact LeO.none _)
      | (with_reducible refine LeO.ite ?_ ?_)
      | (with_reducible refine LeO.bind ?_ (fun _ => ?_))
      | exact ih0 _ _ _ _
      | exact ih1 _ _ _ _
      | exact ih2 _ _ _ _
      | exact bytes_Seal.mono _ _
      | exact bytes_Sum.mono _ _
      | exact topiaristlaw20_wakes.mono _
      | exact LeO.none _
      | refine LeO.ite ?_ ?_
      | refine LeO.bind ?_ (fun _ => ?_)
theorem topiaristlaw20_BytesSums.mono : ∀ a0 a1 a2 k, LeO (topiaristlaw20_BytesSums.f k a0 a1 a2) (topiaristlaw20_BytesSums.f (k + 1) a0 a1 a2) := by
  intro a0 a1 a2 k
  obtain ⟨ih0, ih1, ih2⟩ := topiaristlaw20_BytesSums.mono_l k
  unfold topiaristlaw20_BytesSums.f
  repeat' first
      | (with_reducible exact ih0 _ _ _ _)
      | (with_reducible exact ih1 _ _ _ _)
      | (with_reducible exact ih2 _ _ _ _)
      | (with_reducible exact bytes_Seal.mono _ _)
      | (with_reducible exact bytes_Sum.mono _ _)
      | (with_reducible exact topiaristlaw20_wakes.mono _)
      | (with_reducible exact LeO.refl _)
      | (with_reducible exact LeO.none _)
      | (with_reducible refine LeO.ite ?_ ?_)
      | (with_reducible refine LeO.bind ?_ (fun _ => ?_))
      | exact ih0 _ _ _ _
      | exact ih1 _ _ _ _
      | exact ih2 _ _ _ _
      | exact bytes_Seal.mono _ _
      | exact bytes_Sum.mono _ _
      | exact topiaristlaw20_wakes.mono _
      | exact LeO.none _
      | refine LeO.ite ?_ ?_
      | refine LeO.bind ?_ (fun _ => ?_)
set_option maxHeartbeats 8000000 in
set_option maxRecDepth 100000 in
theorem topiaristlaw20_BytesSums.calls (k : Nat) (A0 : Option Addr) (c0 : Nat) (l0 : List Int) (a1 : Int) (a2 : Int) (r : Bool) (w : World) (hr0 : Kd.C (Kd.int .u8) w A0 l0.length l0) (hc0 : l0.length ≤ c0) (h : topiaristlaw20_BytesSums.f k l0 a1 a2 = some r) (hrt : Aside0 (r = true)) :
    Calls Try.prog 6 #[.slice A0 l0.length c0, .int .u16 a1, .int .u8 a2] w fun e w' => e = .returned (.bool r) ∧ Below w.heap.size w w' := by
  have HR0 := Aside0.mk hr0
  have HC0 := Aside0.mk hc0
  clear hr0 hc0
  have HB := Aside0.mk (Below.refl w.heap.size w)
  have H : (if (l0.length : Int) > 1000 then (topiaristlaw20_BytesSums.j0 k l0 a1 a2 true) else (topiaristlaw20_BytesSums.j0 k l0 a1 a2 ((l0.length : Int) == 0))) = some r := h
  clear h
  have HC4 := Aside0.mk H
  clear H
  go_enter Try.func6, Try.ntmps6
  go_upto_region 1 with (fail)
  go_cut [20] (fun v20 wc => ∃ (kq : Nat) (x20_3 : Bool), v20 = .bool x20_3 ∧ Aside0 (topiaristlaw20_BytesSums.j0 kq l0 a1 a2 x20_3 = some r) ∧ Aside0 (kq ≤ k) ∧ Aside0 (Below w.heap.size w wc))
  case first =>
    have H := HC4.out
    clear HC4
    by_cases c5 : (l0.length : Int) > 1000
    · rw [if_pos c5] at H
      have c5b0 : decide (1000 < (l0.length : Int)) = true := decide_eq_true c5
      have c5b1 : decide (1000 < l0.length) = true := decide_eq_true (by omega)
      clear c5
      (first | rw [c5b0] | (simp only [i64_w, i32_w]; rw [c5b0]) | skip)
      have H' := Aside0.mk H
      clear H
      go_wp2
      go_meet
      case rel => exact ⟨_, (true), (by first | rfl | (simp; done) | (simp [*]; done)), H', ⟨by first | omega | exact Nat.le_refl _⟩, ⟨by repeat (first | (with_reducible first | exact HB.out | apply below_alloc | apply pw_below_drewN | apply below_drew1) | exact HB.out)⟩⟩
    · rw [if_neg c5] at H
      have c5b0 : decide (1000 < (l0.length : Int)) = false := decide_eq_false c5
      have c5b1 : decide (1000 < l0.length) = false := decide_eq_false (by omega)
      clear c5
      (first | rw [c5b0] | (simp only [i64_w, i32_w]; rw [c5b0]) | skip)
      have H' := Aside0.mk H
      clear H
      go_wp2
      go_meet
      case rel => exact ⟨_, (((l0.length : Int) == 0)), (by first | rfl | (simp; done) | (simp [*]; done)), H', ⟨by first | omega | exact Nat.le_refl _⟩, ⟨by repeat (first | (with_reducible first | exact HB.out | apply below_alloc | apply pw_below_drewN | apply below_drew1) | exact HB.out)⟩⟩
  case rest =>
    clear HC4
    try clear p2
    try clear c5
    try clear c5b0
    try clear c5b1
    obtain ⟨kq, x20_3, rfl, HA, HJ3, HB⟩ := hcut
    cases kq with
    | zero => exact absurd HA.out (by simp [topiaristlaw20_BytesSums.j0])
    | succ kj3 =>
      have H := HA.out
      clear HA
      simp only [topiaristlaw20_BytesSums.j0] at H
      by_cases c6 : x20_3 = true
      · subst c6
        have H1 : ((topiaristlaw20_wakes.f kj3).bind fun t101 => (some t101)) = some r := by rw [if_pos rfl] at H; exact H
        clear H
        have H := H1
        clear H1
        replace H := Option.bind_eq_some_iff.mp H
        obtain ⟨t101, A70, H⟩ := H
        replace H : (some t101) = some r := H
        have A7 := Aside0.mk A70
        clear A70
        obtain rfl := Option.some.inj H
        go_wp2_with (first | ((with_reducible refine gate_callee (f := 7) rfl ?_); refine goesL_ (some 21) rfl rfl Try.func7 (by kernel_rfl) rfl #[] rfl (by (try simp only [List.map_toArray, List.map_cons, List.map_nil]); first | done | rfl | (simp only [List.length_drop, List.length_take]; rfl)) ?_; (with_reducible refine (topiaristlaw20_wakes.calls kj3  t101 _ A7.out).mono ?_); rintro e w8 ⟨rfl, hb⟩; refine ⟨_, rfl, ?_⟩; have n0_ := Aside0.mk (below_step (by repeat (first | (with_reducible first | exact HB.out | apply below_alloc | apply pw_below_drewN | apply below_drew1) | exact HB.out)) hb); clear HB; have HB := n0_; clear n0_; (try clear hb); (try clear hb2); (try clear hk); (try clear hi)))
        go_ret
        exact ⟨by first | rfl | (simp [errW_none, errW_some] <;> rfl) | (simp [*, errW_none, errW_some] <;> rfl), by repeat (first | (with_reducible first | exact HB.out | apply below_alloc | apply pw_below_drewN | apply below_drew1) | exact HB.out)⟩
      · replace c6 := Bool.eq_false_iff.mpr c6
        subst c6
        have H1 : ((some (([] : List Int) : List Int)).bind fun y102 => (if y102.length + l0.length < 140737488355328 then ((some (y102 ++ l0 : List Int)).bind fun y105 => (if (y105.length : Int) = 0 then (none) else (if 0 ≤ (Int.tmod (wrap64 (a1)) (y105.length : Int)) then (if (Int.tmod (wrap64 (a1)) (y105.length : Int)) < (y105.length : Int) then ((bytes_Sum.f kj3 l0).bind fun t110 => ((bytes_Sum.f kj3 (y105.set ((Int.tmod (wrap64 (a1)) (y105.length : Int)) : Int).toNat (Go.bits .xor .u8 (rd y105 (Int.tmod (wrap64 (a1)) (y105.length : Int))) a2))).bind fun t111 => (if ((t110 == t111) != (a2 == 0)) = true then (some false) else ((bytes_Seal.f kj3 l0).bind fun t112 => (if (t112.length : Int) = (wrap64 ((l0.length : Int) + 4)) then ((bytes_Sum.f kj3 l0).bind fun t115 => (topiaristlaw20_BytesSums.l0 kj3 l0 t112 t115 0)) else (some false)))))) else (none)) else (none)))) else (none))) = some r := by rw [if_neg (show ¬ (false = true) by decide)] at H; exact H
        clear H
        have H := H1
        clear H1
        obtain ⟨y102, hy102⟩ : ∃ y_ : List Int, y_ = (([] : List Int)) := ⟨_, rfl⟩
        replace H : (if y102.length + l0.length < 140737488355328 then ((some (y102 ++ l0 : List Int)).bind fun y105 => (if (y105.length : Int) = 0 then (none) else (if 0 ≤ (Int.tmod (wrap64 (a1)) (y105.length : Int)) then (if (Int.tmod (wrap64 (a1)) (y105.length : Int)) < (y105.length : Int) then ((bytes_Sum.f kj3 l0).bind fun t110 => ((bytes_Sum.f kj3 (y105.set ((Int.tmod (wrap64 (a1)) (y105.length : Int)) : Int).toNat (Go.bits .xor .u8 (rd y105 (Int.tmod (wrap64 (a1)) (y105.length : Int))) a2))).bind fun t111 => (if ((t110 == t111) != (a2 == 0)) = true then (some false) else ((bytes_Seal.f kj3 l0).bind fun t112 => (if (t112.length : Int) = (wrap64 ((l0.length : Int) + 4)) then ((bytes_Sum.f kj3 l0).bind fun t115 => (topiaristlaw20_BytesSums.l0 kj3 l0 t112 t115 0)) else (some false)))))) else (none)) else (none)))) else (none)) = some r := by first | (rw [hy102]; with_reducible exact H) | (have H2_ := (Option.bind_some _ _).symm.trans H; rw [hy102]; with_reducible exact H2_) | (have H2_ := (Option.bind_some _ _).symm.trans H; with_reducible exact H2_) | with_reducible exact H | (rw [hy102]; exact H) | exact H
        have Ny102 := Aside0.mk hy102
        clear hy102
        by_cases c9 : y102.length + l0.length < 140737488355328
        · rw [if_pos c9] at H
          have LMc9 := Aside0.mk c9
          clear c9
          obtain ⟨y105, hy105⟩ : ∃ y_ : List Int, y_ = (y102 ++ l0) := ⟨_, rfl⟩
          replace H : (if (y105.length : Int) = 0 then (none) else (if 0 ≤ (Int.tmod (wrap64 (a1)) (y105.length : Int)) then (if (Int.tmod (wrap64 (a1)) (y105.length : Int)) < (y105.length : Int) then ((bytes_Sum.f kj3 l0).bind fun t110 => ((bytes_Sum.f kj3 (y105.set ((Int.tmod (wrap64 (a1)) (y105.length : Int)) : Int).toNat (Go.bits .xor .u8 (rd y105 (Int.tmod (wrap64 (a1)) (y105.length : Int))) a2))).bind fun t111 => (if ((t110 == t111) != (a2 == 0)) = true then (some false) else ((bytes_Seal.f kj3 l0).bind fun t112 => (if (t112.length : Int) = (wrap64 ((l0.length : Int) + 4)) then ((bytes_Sum.f kj3 l0).bind fun t115 => (topiaristlaw20_BytesSums.l0 kj3 l0 t112 t115 0)) else (some false)))))) else (none)) else (none))) = some r := by first | (rw [hy105]; with_reducible exact H) | (have H2_ := (Option.bind_some _ _).symm.trans H; rw [hy105]; with_reducible exact H2_) | (have H2_ := (Option.bind_some _ _).symm.trans H; with_reducible exact H2_) | with_reducible exact H | (rw [hy105]; exact H) | exact H
          have Ny105 := Aside0.mk hy105
          clear hy105
          by_cases c10 : (y105.length : Int) = 0
          · rw [if_pos c10] at H
            exact absurd H (by simp)
          · rw [if_neg c10] at H
            have c10b0 : ((y105.length : Int) == 0) = false := beq_eq_false_iff_ne.mpr c10
            have c10b1 : ((y105.length : Int) != 0) = true := bne_iff_ne.mpr c10
            have c10b2 : ¬ (y105 = []) := fun h_ => c10 (by rw [h_]; rfl)
            obtain ⟨ji11, hji11⟩ : ∃ j_ : Int, (Int.tmod (wrap64 (a1)) (y105.length : Int)) = j_ := ⟨_, rfl⟩
            replace H : (if 0 ≤ (ji11) then (if (ji11) < (y105.length : Int) then ((bytes_Sum.f kj3 l0).bind fun t110 => ((bytes_Sum.f kj3 (y105.set ((ji11) : Int).toNat (Go.bits .xor .u8 (rd y105 (ji11)) a2))).bind fun t111 => (if ((t110 == t111) != (a2 == 0)) = true then (some false) else ((bytes_Seal.f kj3 l0).bind fun t112 => (if (t112.length : Int) = (wrap64 ((l0.length : Int) + 4)) then ((bytes_Sum.f kj3 l0).bind fun t115 => (topiaristlaw20_BytesSums.l0 kj3 l0 t112 t115 0)) else (some false)))))) else (none)) else (none)) = some r := by first | (rw [hji11] at H; exact H) | (simp only [hji11] at H ⊢; exact H)
            by_cases c12 : 0 ≤ (ji11)
            · rw [if_pos c12] at H
              have c12b0 : decide (0 ≤ (ji11)) = true := decide_eq_true c12
              clear c12
              by_cases c13 : (ji11) < (y105.length : Int)
              · rw [if_pos c13] at H
                have c13b0 : decide ((ji11) < (y105.length : Int)) = true := decide_eq_true c13
                clear c13
                obtain ⟨y109, hy109⟩ : ∃ y_ : List Int, y_ = (y105.set ((ji11) : Int).toNat (Go.bits .xor .u8 (rd y105 (ji11)) a2)) := ⟨_, rfl⟩
                replace H : ((bytes_Sum.f kj3 l0).bind fun t110 => ((bytes_Sum.f kj3 y109).bind fun t111 => (if ((t110 == t111) != (a2 == 0)) = true then (some false) else ((bytes_Seal.f kj3 l0).bind fun t112 => (if (t112.length : Int) = (wrap64 ((l0.length : Int) + 4)) then ((bytes_Sum.f kj3 l0).bind fun t115 => (topiaristlaw20_BytesSums.l0 kj3 l0 t112 t115 0)) else (some false)))))) = some r := by first | (rw [hy109]; with_reducible exact H) | (have H2_ := (Option.bind_some _ _).symm.trans H; rw [hy109]; with_reducible exact H2_) | (have H2_ := (Option.bind_some _ _).symm.trans H; with_reducible exact H2_) | with_reducible exact H | (rw [hy109]; exact H) | exact H
                have Ny109 := Aside0.mk hy109
                clear hy109
                replace H := Option.bind_eq_some_iff.mp H
                obtain ⟨t110, A150, H⟩ := H
                replace H : ((bytes_Sum.f kj3 y109).bind fun t111 => (if ((t110 == t111) != (a2 == 0)) = true then (some false) else ((bytes_Seal.f kj3 l0).bind fun t112 => (if (t112.length : Int) = (wrap64 ((l0.length : Int) + 4)) then ((bytes_Sum.f kj3 l0).bind fun t115 => (topiaristlaw20_BytesSums.l0 kj3 l0 t112 t115 0)) else (some false))))) = some r := H
                have A15 := Aside0.mk A150
                clear A150
                replace H := Option.bind_eq_some_iff.mp H
                obtain ⟨t111, A160, H⟩ := H
                replace H : (if ((t110 == t111) != (a2 == 0)) = true then (some false) else ((bytes_Seal.f kj3 l0).bind fun t112 => (if (t112.length : Int) = (wrap64 ((l0.length : Int) + 4)) then ((bytes_Sum.f kj3 l0).bind fun t115 => (topiaristlaw20_BytesSums.l0 kj3 l0 t112 t115 0)) else (some false)))) = some r := H
                have A16 := Aside0.mk A160
                clear A160
                by_cases c17 : ((t110 == t111) != (a2 == 0)) = true
                · rw [if_pos c17] at H
                  have c17b0 : ((t110 == t111) != (a2 == 0)) = true := c17
                  (try (have c17b1 : decide ((t110 == t111) = (a2 == 0)) = false := by simpa using c17))
                  (try (have c17b2 : ((t110 == t111) == (a2 == 0)) = false := by simpa using c17))
                  (try (have c17b3 : ¬ ((t110 == t111) = (a2 == 0)) := by simpa using c17))
                  clear c17
                  exact absurd ((Option.some.inj H).trans hrt.out) Bool.false_ne_true
                · rw [if_neg c17] at H
                  have c17b0 : ((t110 == t111) != (a2 == 0)) = false := by simpa using c17
                  (try (have c17b1 : decide ((t110 == t111) = (a2 == 0)) = true := by simpa using c17))
                  (try (have c17b2 : ((t110 == t111) == (a2 == 0)) = true := by simpa using c17))
                  clear c17
                  replace H := Option.bind_eq_some_iff.mp H
                  obtain ⟨t112, A240, H⟩ := H
                  replace H : (if (t112.length : Int) = (wrap64 ((l0.length : Int) + 4)) then ((bytes_Sum.f kj3 l0).bind fun t115 => (topiaristlaw20_BytesSums.l0 kj3 l0 t112 t115 0)) else (some false)) = some r := H
                  have A24 := Aside0.mk A240
                  clear A240
                  by_cases c25 : (t112.length : Int) = (wrap64 ((l0.length : Int) + 4))
                  · rw [if_pos c25] at H
                    have c25b0 : ((t112.length : Int) == (wrap64 ((l0.length : Int) + 4))) = true := beq_iff_eq.mpr c25
                    have c25b1 : ((t112.length : Int) != (wrap64 ((l0.length : Int) + 4))) = false := bne_eq_false_iff_eq.mpr c25
                    clear c25
                    replace H := Option.bind_eq_some_iff.mp H
                    obtain ⟨t115, A260, H⟩ := H
                    replace H : (topiaristlaw20_BytesSums.l0 kj3 l0 t112 t115 0) = some r := H
                    have A26 := Aside0.mk A260
                    clear A260
                    have H' := Aside0.mk H
                    clear H
                    go_wp2_with (first | ((with_reducible refine gate_dst (N := 22) rfl ?_); (try (refine gate_guard (by rfl) ?_; dsimp only)); refine Kd.R_lit (Kd.int .u8) _ 5 ?hg (N := 22) ?hd (xs := ([] : List Int)) (inner := []) (ok := fun _ => True) (okp := fun _ => True) ?hr ?hp (fun _ hk => hk) trivial (Below.refl _ _) (Nat.le_refl _) (by simp) ?_; (case hd => rfl); (case hg => rfl); (case hr => first | (go_simp; done) | (go_simp; rfl)); (case hp => exact (Reps.none _ _)); intro v103 w27 ho28 hb hg_ hnew_; clear hg_ hnew_; (first | rw [← Ny102.out] at ho28 | (simp only [Int.reduceToNat] at ho28; rw [← Ny102.out] at ho28)); have n0_ := Aside0.mk (Kd.R_lower ho28 (below_size (by repeat (first | (with_reducible first | exact HB.out | apply below_alloc | apply pw_below_drewN | apply below_drew1) | exact HB.out)))); have n1_ := Aside0.mk (below_step (by repeat (first | (with_reducible first | exact HB.out | apply below_alloc | apply pw_below_drewN | apply below_drew1) | exact HB.out)) hb); clear HB; have HO104 := n0_; have HB := n1_; clear n0_ n1_; clear hb ho28) | ((with_reducible refine gate_builtin (b := .append) (xs := #[.tmp 22, .tmp 23]) rfl ?_); (try (refine gate_guard (by rfl) ?_; dsimp only)); at_builtin; refine Kd.R_append_rows (Kd.int .u8) (w0 := w) w.heap.size rfl (.tmp 22) (.tmp 23) 22 5 (.int .u8 0) 1 rfl Try.underlying22 info5 rfl (by decide) (by omega) v103 y102 l0 _ _ _ (fun _ => True) (fun _ => False) rfl rfl ?aO ?aR (fun _ _ h => h) (fun _ h => h.elim) ?aF ?aB ?aS ?aL ?_; (case aR => repeat (first | exact (Kd.C_below HR0.out HB.out) | (with_reducible refine Kd.C_alloc ?_ _) | (with_reducible refine Kd.C_drewN ?_ _) | (with_reducible refine Kd.C_drew ?_))); (case aB => exact (by repeat (first | (with_reducible first | exact HB.out | apply below_alloc | apply pw_below_drewN | apply below_drew1) | exact HB.out))); (case aF => exact (fun _ _ => trivial)); (case aO => exact (by (with_reducible repeat (first | apply Kd.R_alloc | apply Kd.R_drewN | apply Kd.R_drew)); exact HO104.out)); (case aS => exact (below_size (by repeat (first | (with_reducible first | exact HB.out | apply below_alloc | apply pw_below_drewN | apply below_drew1) | exact HB.out)))); (case aL => have := LMc9.out; omega); intro v106 w29 ho hb hg hat; rw [← Ny105.out] at ho; have n0_ := Aside0.mk (hb); have n1_ := Aside0.mk (ho); clear HB; clear HO104; have HB := n0_; have HO107 := n1_; clear n0_ n1_; clear ho hb hg hat; obtain ⟨Ao30, co30, eo30⟩ := Kd.R_slice HO107.out; subst eo30; have p108 : 0 ≤ ((ji11) : Int) := of_decide_eq_true (by first | (with_reducible assumption) | assumption); have q108 : (ji11) < (y105.length : Int) := of_decide_eq_true (by first | (with_reducible assumption) | assumption); obtain ⟨ad108, e108, hx108_0⟩ := Kd.at_int (Kd.R_reads' HO107.out).2.2 (ji11) p108 q108; cases e108; replace p108 := eq_true p108; replace q108 := eq_true q108; have p14 : 0 ≤ ((ji11) : Int) := of_decide_eq_true (by first | (with_reducible assumption) | assumption); have q14 : ((ji11) : Int) < ((y105.length : Int) : Int) := of_decide_eq_true (by first | (with_reducible assumption) | assumption); obtain ⟨go14, co14, eo14, gb14, gl14, cl14, HG14⟩ := Kd.R_form HO107.out (by omega); (first | cases eo14 | (injection eo14 with ea_ en_ ec_; (first | subst ea_ | (injection ea_ with ea_; subst ea_)); subst ec_; clear en_)); have GB14 := Aside0.mk gb14; have GG14 := Aside0.mk HG14; clear gb14 gl14 HG14; (first | simp only [add_plain] at hx108_0 | skip); obtain ⟨hx14_0, hf14_0⟩ := Kd.R_celln 0 HO107.out ((ji11) : Int) p14 q14; replace p14 := eq_true p14; replace q14 := eq_true q14; obtain ⟨hy31_, hz31_⟩ := Kd.R_celln 0 HO107.out ((ji11) : Int) (of_decide_eq_true (by first | (with_reducible assumption) | assumption)) (of_decide_eq_true (by first | (with_reducible assumption) | assumption)); have HP31 := Kd.R_putg HO107.out ((ji11) : Int) (Go.bits .xor .u8 (rd y105 (ji11)) a2)) | ((with_reducible refine gate_store (t := 5) (p := 35) rfl ?_); refine store_event (t := 5) (p := 35) (v := ?vo_w32) (w1 := (w29.setCell ⟨go14, ((ji11) : Int).toNat, none⟩ (.int .u8 (Go.bits .xor .u8 (rd y105 (ji11)) a2)))) ?hg ?ho ?hn ?hr ?_; (case ho => rfl); (case hg => rfl); (case hn => rfl); (case hr => first | (go_simp; done) | (go_simp; rfl)); intro w32 hw; have hg : w29.grownBy w32 (some go14) := (by rw [hw]; exact HP31.2); have hp_ : Kd.R (Kd.int .u8) 5 w32 w.heap.size (fun _ => True) (.slice (some ⟨go14, 0, none⟩) y105.length co30) y109 := (by rw [hw, Ny109.out]; exact HP31.1); clear HP31; have n0_ := Aside0.mk (hp_); have n1_ := Aside0.mk ((by rw [hw]; exact below_set (HB.out) GB14.out : Below w.heap.size w w32)); clear HO107; clear HB; have HO107 := n0_; have HB := n1_; clear n0_ n1_; clear hg hw hp_) | ((with_reducible refine gate_callee (f := 19) rfl ?_); refine goesL_ (some 37) rfl rfl Try.func19 (by kernel_rfl) rfl #[.slice A0 l0.length c0] rfl (by (try simp only [List.map_toArray, List.map_cons, List.map_nil]); first | done | rfl | (simp only [List.length_drop, List.length_take]; rfl)) ?_; (with_reducible refine (bytes_Sum.calls kj3 _ _ l0 t110 _ ?side1 ?side2 A15.out).mono ?_); (case side1 => repeat (first | exact (Kd.C_below HR0.out HB.out) | (with_reducible refine Kd.C_alloc ?_ _) | (with_reducible refine Kd.C_drewN ?_ _) | (with_reducible refine Kd.C_drew ?_))); (case side2 => exact HC0.out); rintro e w' ⟨rfl, ⟨nd, rfl⟩⟩; refine ⟨_, rfl, ?_⟩) | ((with_reducible refine gate_callee (f := 19) rfl ?_); refine goesL_ (some 39) rfl rfl Try.func19 (by kernel_rfl) rfl #[.slice (some ⟨go14, 0, none⟩) y109.length co30] rfl (by (try simp only [List.map_toArray, List.map_cons, List.map_nil]); first | done | (rw [show y109.length = y105.length from (Kd.R_reads' HO107.out).1.symm] <;> rfl) | rfl | (simp only [List.length_drop, List.length_take]; rfl)) ?_; (with_reducible refine (bytes_Sum.calls kj3 _ _ y109 t111 _ ?side1 ?side2 A16.out).mono ?_); (case side1 => repeat (first | exact (Kd.R_reads' HO107.out).2.2 | (with_reducible refine Kd.C_alloc ?_ _) | (with_reducible refine Kd.C_drewN ?_ _) | (with_reducible refine Kd.C_drew ?_))); (case side2 => rw [show y109.length = y105.length from (Kd.R_reads' HO107.out).1.symm]; exact (Kd.R_reads' HO107.out).2.1); rintro e w' ⟨rfl, ⟨nd, rfl⟩⟩; refine ⟨_, rfl, ?_⟩) | ((with_reducible refine gate_callee (f := 21) rfl ?_); refine goesL_ (some 45) rfl rfl Try.func21 (by kernel_rfl) rfl #[.slice A0 l0.length c0] rfl (by (try simp only [List.map_toArray, List.map_cons, List.map_nil]); first | done | rfl | (simp only [List.length_drop, List.length_take]; rfl)) ?_; (with_reducible refine (bytes_Seal.calls kj3 _ _ l0 t112 _ ?side1 ?side2 A24.out).mono ?_); (case side1 => repeat (first | exact (Kd.C_below HR0.out (by repeat (first | (with_reducible first | exact HB.out | apply below_alloc | apply pw_below_drewN | apply below_drew1) | exact HB.out))) | (with_reducible refine Kd.C_alloc ?_ _) | (with_reducible refine Kd.C_drewN ?_ _) | (with_reducible refine Kd.C_drew ?_))); (case side2 => exact HC0.out); rintro e w33 ⟨v113, rfl, ho0, hb⟩; refine ⟨_, rfl, ?_⟩; have n0_ := Aside0.mk (Kd.R_elder' (by (with_reducible repeat (first | apply Kd.R_alloc | apply Kd.R_drewN | apply Kd.R_drew)); exact HO107.out) (Kd.R_base ho0) hb); have n1_ := Aside0.mk (Kd.R_lower (Kd.R_new' ho0 (Kd.R_lt (by (with_reducible repeat (first | apply Kd.R_alloc | apply Kd.R_drewN | apply Kd.R_drew)); exact HO107.out))) (below_size (by repeat (first | (with_reducible first | exact HB.out | apply below_alloc | apply pw_below_drewN | apply below_drew1) | exact HB.out)))); have n2_ := Aside0.mk (below_step (by repeat (first | (with_reducible first | exact HB.out | apply below_alloc | apply pw_below_drewN | apply below_drew1) | exact HB.out)) hb); clear HO107; clear HB; have HO107 := n0_; have HO114 := n1_; have HB := n2_; clear n0_ n1_ n2_; (try clear hb); (try clear hb2); (try clear hk); (try clear hi); (try clear ho0); obtain ⟨Ao34, co34, eo34⟩ := Kd.R_slice HO114.out; subst eo34) | ((with_reducible refine gate_callee (f := 19) rfl ?_); refine goesL_ (some 53) rfl rfl Try.func19 (by kernel_rfl) rfl #[.slice A0 l0.length c0] rfl (by (try simp only [List.map_toArray, List.map_cons, List.map_nil]); first | done | rfl | (simp only [List.length_drop, List.length_take]; rfl)) ?_; (with_reducible refine (bytes_Sum.calls kj3 _ _ l0 t115 _ ?side1 ?side2 A26.out).mono ?_); (case side1 => repeat (first | exact (Kd.C_below HR0.out HB.out) | (with_reducible refine Kd.C_alloc ?_ _) | (with_reducible refine Kd.C_drewN ?_ _) | (with_reducible refine Kd.C_drew ?_))); (case side2 => exact HC0.out); rintro e w' ⟨rfl, ⟨nd, rfl⟩⟩; refine ⟨_, rfl, ?_⟩))
                    go_loopg [10] kj3 (fun kq v10 w' => ∃ (x10_2 : Int), v10 = .int .i64 x10_2 ∧ Aside0 (topiaristlaw20_BytesSums.l0 kq l0 t112 t115 x10_2 = some r) ∧ Aside0 (kq ≤ kj3) ∧ Aside0 (Kd.R (Kd.int .u8) 5 w' w.heap.size (fun _ => True) (.slice Ao34 t112.length co34) t112) ∧ Aside0 (Below w.heap.size w w'))
                    case atStart => exact ⟨(0), (by first | rfl | (simp; done) | (simp [*]; done)), H', ⟨Nat.le_refl _⟩, ⟨by (with_reducible repeat (first | apply Kd.R_alloc | apply Kd.R_drewN | apply Kd.R_drew)); exact Kd.R_mono HO114.out (fun _ hk => trivial)⟩, ⟨by repeat (first | (with_reducible first | exact HB.out | apply below_alloc | apply pw_below_drewN | apply below_drew1) | exact HB.out)⟩⟩
                    case round =>
                      clear H'
                      try clear c1
                      try clear p1
                      try clear q1
                      try clear hx1
                      try clear c2
                      try clear p2
                      try clear c5
                      try clear c5b0
                      try clear c5b1
                      try clear c6
                      try clear p6
                      try clear c7
                      try clear c9
                      try clear c10
                      try clear c10b0
                      try clear c10b1
                      try clear c10b2
                      try clear p10
                      try clear q10
                      try clear hx10
                      try clear c12
                      try clear c12b0
                      try clear c13
                      try clear c13b0
                      try clear p14
                      try clear q14
                      try clear hx14
                      try clear hf14
                      try clear c17
                      try clear c17b0
                      try clear c17b1
                      try clear c17b2
                      try clear c19
                      try clear c21
                      try clear c25
                      try clear c25b0
                      try clear c25b1
                      try clear hx108_0
                      try clear hx14_0
                      try clear p108
                      try clear p14
                      try clear p2
                      try clear q108
                      try clear q14
                      obtain ⟨x10_2, rfl, HA, HK2, HO_8, HB⟩ := hrel
                      cases gk with
                      | zero => exact absurd HA.out (by simp [topiaristlaw20_BytesSums.l0])
                      | succ k2 =>
                        have H := HA.out
                        clear HA
                        simp only [topiaristlaw20_BytesSums.l0] at H
                        by_cases c35 : x10_2 < 4
                        · rw [if_pos c35] at H
                          have c35b0 : decide (x10_2 < 4) = true := decide_eq_true c35
                          clear c35
                          obtain ⟨ji36, hji36⟩ : ∃ j_ : Int, (wrap64 ((l0.length : Int) + x10_2)) = j_ := ⟨_, rfl⟩
                          replace H : (if 0 ≤ (ji36) then (if (ji36) < (t112.length : Int) then (if 0 ≤ (IntKind.u64.wrap (wrap64 (8 * x10_2))) then (if (rd t112 (ji36)) = ((shr .u32 t115 (IntKind.u64.wrap (wrap64 (8 * x10_2)))) % 256) then (topiaristlaw20_BytesSums.l0 k2 l0 t112 t115 (wrap64 (x10_2 + 1))) else (some false)) else (none)) else (none)) else (none)) = some r := by first | (rw [hji36] at H; exact H) | (simp only [hji36] at H ⊢; exact H)
                          have hji36w : (IntKind.i64.wrap ((l0.length : Int) + x10_2)) = ji36 := (i64_w _).trans hji36
                          by_cases c37 : 0 ≤ (ji36)
                          · rw [if_pos c37] at H
                            have c37b0 : decide (0 ≤ (ji36)) = true := decide_eq_true c37
                            clear c37
                            by_cases c38 : (ji36) < (t112.length : Int)
                            · rw [if_pos c38] at H
                              have c38b0 : decide ((ji36) < (t112.length : Int)) = true := decide_eq_true c38
                              clear c38
                              obtain ⟨ji39, hji39⟩ : ∃ j_ : Int, (IntKind.u64.wrap (wrap64 (8 * x10_2))) = j_ := ⟨_, rfl⟩
                              replace H : (if 0 ≤ (ji39) then (if (rd t112 (ji36)) = ((shr .u32 t115 (ji39)) % 256) then (topiaristlaw20_BytesSums.l0 k2 l0 t112 t115 (wrap64 (x10_2 + 1))) else (some false)) else (none)) = some r := by first | (rw [hji39] at H; exact H) | (simp only [hji39] at H ⊢; exact H)
                              by_cases c40 : 0 ≤ (ji39)
                              · rw [if_pos c40] at H
                                have c40b0 := eq_true c40
                                have c40b1 : decide (0 ≤ (ji39)) = true := decide_eq_true c40
                                clear c40
                                obtain ⟨ji41, hji41⟩ : ∃ j_ : Int, (shr .u32 t115 (ji39)) = j_ := ⟨_, rfl⟩
                                replace H : (if (rd t112 (ji36)) = ((ji41) % 256) then (topiaristlaw20_BytesSums.l0 k2 l0 t112 t115 (wrap64 (x10_2 + 1))) else (some false)) = some r := by first | (rw [hji41] at H; exact H) | (simp only [hji41] at H ⊢; exact H)
                                have hji41_ : (t115 / 2 ^ min (ji39).toNat 32) = ji41 := hji41
                                have hji41z : (ji39) ≤ 32 → (t115 / 2 ^ (ji39).toNat) = ji41 := shr_small hji41
                                by_cases c42 : (rd t112 (ji36)) = ((ji41) % 256)
                                · rw [if_pos c42] at H
                                  have c42b0 : ((rd t112 (ji36)) == ((ji41) % 256)) = true := beq_iff_eq.mpr c42
                                  have c42b1 : ((rd t112 (ji36)) != ((ji41) % 256)) = false := bne_eq_false_iff_eq.mpr c42
                                  clear c42
                                  have H' := Aside0.mk H
                                  clear H
                                  have p116 : 0 ≤ ((ji36) : Int) := of_decide_eq_true (by first | (with_reducible assumption) | assumption)
                                  have q116 : (ji36) < (t112.length : Int) := of_decide_eq_true (by first | (with_reducible assumption) | assumption)
                                  obtain ⟨ad116, e116, hx116_0⟩ := Kd.at_int (Kd.R_reads' HO_8.out).2.2 (ji36) p116 q116
                                  cases e116
                                  replace p116 := eq_true p116
                                  replace q116 := eq_true q116
                                  go_wp2
                                  go_roundg k2
                                  case measure => have := HJ3.out; have := HK2.out; omega
                                  case rel => exact ⟨(wrap64 (x10_2 + 1)), (by first | rfl | (simp; done) | (simp [*]; done)), H', ⟨by have := HJ3.out; have := HK2.out; omega⟩, ⟨by (with_reducible repeat (first | apply Kd.R_alloc | apply Kd.R_drewN | apply Kd.R_drew)); exact HO_8.out⟩, ⟨by repeat (first | (with_reducible first | exact HB.out | apply below_alloc | apply pw_below_drewN | apply below_drew1) | exact HB.out)⟩⟩
                                · rw [if_neg c42] at H
                                  have c42b0 : ((rd t112 (ji36)) == ((ji41) % 256)) = false := beq_eq_false_iff_ne.mpr c42
                                  have c42b1 : ((rd t112 (ji36)) != ((ji41) % 256)) = true := bne_iff_ne.mpr c42
                                  exact absurd ((Option.some.inj H).trans hrt.out) Bool.false_ne_true
                              · rw [if_neg c40] at H
                                exact absurd H (by simp)
                            · rw [if_neg c38] at H
                              exact absurd H (by simp)
                          · rw [if_neg c37] at H
                            exact absurd H (by simp)
                        · rw [if_neg c35] at H
                          have c35b0 : decide (x10_2 < 4) = false := decide_eq_false c35
                          clear c35
                          have H' := Aside0.mk H
                          clear H
                          go_wp2
                          go_loopg [11, 12] k2 (fun kq v11 v12 w' => ∃ (x11_3 : Int) (x12_3 : Int), v11 = .int .u32 x11_3 ∧ v12 = .int .i64 x12_3 ∧ Aside0 (topiaristlaw20_BytesSums.l1 kq l0 t115 x11_3 x12_3 = some r) ∧ Aside0 (kq ≤ k2) ∧ Aside0 (Below w.heap.size w w'))
                          case atStart => exact ⟨(7), (0), (by first | rfl | (simp; done) | (simp [*]; done)), (by first | rfl | (simp; done) | (simp [*]; done)), H', ⟨Nat.le_refl _⟩, ⟨by repeat (first | (with_reducible first | exact HB.out | apply below_alloc | apply pw_below_drewN | apply below_drew1) | exact HB.out)⟩⟩
                          case round =>
                            clear H'
                            try clear c1
                            try clear p1
                            try clear q1
                            try clear hx1
                            try clear c2
                            try clear p2
                            try clear c3
                            try clear c4
                            try clear c5
                            try clear c5b0
                            try clear c5b1
                            try clear c6
                            try clear p6
                            try clear c7
                            try clear c9
                            try clear c10
                            try clear c10b0
                            try clear c10b1
                            try clear c10b2
                            try clear p10
                            try clear q10
                            try clear hx10
                            try clear p11
                            try clear q11
                            try clear hx11
                            try clear c12
                            try clear c12b0
                            try clear c13
                            try clear c13b0
                            try clear p14
                            try clear q14
                            try clear hx14
                            try clear hf14
                            try clear c17
                            try clear c17b0
                            try clear c17b1
                            try clear c17b2
                            try clear c19
                            try clear c21
                            try clear c25
                            try clear c25b0
                            try clear c25b1
                            try clear c35
                            try clear c35b0
                            try clear c37
                            try clear c37b0
                            try clear c38
                            try clear c38b0
                            try clear c40
                            try clear c40b0
                            try clear c40b1
                            try clear c42
                            try clear c42b0
                            try clear c42b1
                            try clear hx108_0
                            try clear hx116_0
                            try clear hx14_0
                            try clear p1
                            try clear p10
                            try clear p108
                            try clear p116
                            try clear p14
                            try clear p2
                            try clear p6
                            try clear q1
                            try clear q10
                            try clear q108
                            try clear q116
                            try clear q14
                            obtain ⟨x11_3, x12_3, rfl, rfl, HA, HK3, HB⟩ := hrel
                            cases gk with
                            | zero => exact absurd HA.out (by simp [topiaristlaw20_BytesSums.l1])
                            | succ k3 =>
                              have H := HA.out
                              clear HA
                              simp only [topiaristlaw20_BytesSums.l1] at H
                              by_cases c43 : x12_3 < (l0.length : Int)
                              · rw [if_pos c43] at H
                                have c43b0 : decide (x12_3 < (l0.length : Int)) = true := decide_eq_true c43
                                clear c43
                                by_cases c44 : 0 ≤ x12_3
                                · rw [if_pos c44] at H
                                  have c44b0 : decide (0 ≤ x12_3) = true := decide_eq_true c44
                                  clear c44
                                  have H' := Aside0.mk H
                                  clear H
                                  have p117 : 0 ≤ (x12_3 : Int) := of_decide_eq_true (by first | (with_reducible assumption) | assumption)
                                  have q117 : x12_3 < (l0.length : Int) := of_decide_eq_true (by first | (with_reducible assumption) | assumption)
                                  obtain ⟨ad117, e117, hx117_0⟩ := Kd.at_int HR0.out x12_3 p117 q117
                                  cases e117
                                  replace hx117_0 := (HB.out.cell (World.block_lt_of_cell? w _ hx117_0)).trans hx117_0
                                  replace p117 := eq_true p117
                                  replace q117 := eq_true q117
                                  go_wp2
                                  go_roundg k3
                                  case measure => have := HJ3.out; have := HK2.out; have := HK3.out; omega
                                  case rel => exact ⟨((((((31 * x11_3) % 4294967296) + ((rd l0 x12_3) % 4294967296)) % 4294967296) + 1) % 4294967296), (wrap64 (x12_3 + 1)), (by first | rfl | (simp; done) | (simp [*]; done)), (by first | rfl | (simp; done) | (simp [*]; done)), H', ⟨by have := HJ3.out; have := HK2.out; have := HK3.out; omega⟩, ⟨by repeat (first | (with_reducible first | exact HB.out | apply below_alloc | apply pw_below_drewN | apply below_drew1) | exact HB.out)⟩⟩
                                · rw [if_neg c44] at H
                                  exact absurd H (by simp)
                              · rw [if_neg c43] at H
                                have c43b0 : decide (x12_3 < (l0.length : Int)) = false := decide_eq_false c43
                                clear c43
                                by_cases c45 : x11_3 = t115
                                · rw [if_pos c45] at H
                                  have c45b0 : (x11_3 == t115) = true := beq_iff_eq.mpr c45
                                  have c45b1 : (x11_3 != t115) = false := bne_eq_false_iff_eq.mpr c45
                                  clear c45
                                  replace H := Option.bind_eq_some_iff.mp H
                                  obtain ⟨t118, A460, H⟩ := H
                                  replace H : (some t118) = some r := H
                                  have A46 := Aside0.mk A460
                                  clear A460
                                  obtain rfl := Option.some.inj H
                                  go_wp2_with (first | (go_at_call 7; (with_reducible refine (topiaristlaw20_wakes.calls k3  t118 _ A46.out).mono ?_); rintro e w47 ⟨rfl, hb⟩; have n0_ := Aside0.mk (below_step (by repeat (first | (with_reducible first | exact HB.out | apply below_alloc | apply pw_below_drewN | apply below_drew1) | exact HB.out)) hb); clear HB; have HB := n0_; clear n0_; (try clear hb); (try clear hb2); (try clear hk); (try clear hi)))
                                  go_ret
                                  exact ⟨by first | rfl | (simp [errW_none, errW_some] <;> rfl) | (simp only [← hji11]; first | rfl | (simp [errW_none, errW_some] <;> rfl)) | (simp [*, errW_none, errW_some] <;> rfl), by repeat (first | (with_reducible first | exact HB.out | apply below_alloc | apply pw_below_drewN | apply below_drew1) | exact HB.out)⟩
                                · rw [if_neg c45] at H
                                  have c45b0 : (x11_3 == t115) = false := beq_eq_false_iff_ne.mpr c45
                                  have c45b1 : (x11_3 != t115) = true := bne_iff_ne.mpr c45
                                  obtain rfl := Option.some.inj H
                                  go_wp2
                                  go_ret
                                  exact ⟨by first | rfl | (simp [errW_none, errW_some] <;> rfl) | (simp only [← hji11]; first | rfl | (simp [errW_none, errW_some] <;> rfl)) | (simp [*, errW_none, errW_some] <;> rfl), by repeat (first | (with_reducible first | exact HB.out | apply below_alloc | apply pw_below_drewN | apply below_drew1) | exact HB.out)⟩
                  · rw [if_neg c25] at H
                    have c25b0 : ((t112.length : Int) == (wrap64 ((l0.length : Int) + 4))) = false := beq_eq_false_iff_ne.mpr c25
                    have c25b1 : ((t112.length : Int) != (wrap64 ((l0.length : Int) + 4))) = true := bne_iff_ne.mpr c25
                    exact absurd ((Option.some.inj H).trans hrt.out) Bool.false_ne_true
              · rw [if_neg c13] at H
                exact absurd H (by simp)
            · rw [if_neg c12] at H
              exact absurd H (by simp)
        · rw [if_neg c9] at H
          exact absurd H (by simp)

/-- THE ONE PURE STATEMENT of topiaristlaw20_BytesSums: yours. -/
def topiaristlaw20_BytesSums.Pure : Prop := ∀ (l0 : List Int) (a1 : Int) (a2 : Int), l0.length ≤ maxLen → l0.length * 1 ≤ 140737488351232 → (∀ x ∈ l0, (Lit.int .u8 x).wf = true) → (Lit.int .u16 a1).wf = true → (Lit.int .u8 a2).wf = true → ∃ k, topiaristlaw20_BytesSums.f k l0 a1 a2 = some true
theorem topiaristlaw20_BytesSums.walk (P : topiaristlaw20_BytesSums.Pure) (a0 : Option Addr) (len0 cap0 : Nat) (z0 : List Int) (a1 : Int) (a2 : Int) (w : World) (w0 : (a0 = none ∧ len0 = 0 ∧ cap0 = 0 ∧ z0 = []) ∨ ∃ x, a0 = some x ∧ len0 ≤ cap0 ∧ cap0 ≤ maxLen ∧ z0.length = cap0 ∧ (∀ i, i < z0.length → w.cell? (x.add i) = some (.int .u8 (z0.getD i 0))) ∧ ∀ n ∈ z0, (Lit.int .u8 n).wf = true) (y0 : len0 * 1 ≤ 140737488351232) (w1 : (Lit.int .u16 a1).wf = true) (w2 : (Lit.int .u8 a2).wf = true) :
    Calls Try.prog 6 #[.slice a0 len0 cap0, .int .u16 a1, .int .u8 a2] w fun e w' => e = .returned (.bool true) ∧ Below w.heap.size w w' := by
  obtain ⟨l0, rfl, hr0, hm0, hw0, hc0⟩ := ReadsInt.ofRowC w0
  obtain ⟨k, h⟩ := P l0 a1 a2 hm0 y0 hw0 w1 w2
  refine (topiaristlaw20_BytesSums.calls k _ _ l0 a1 a2 true w (Kd.C_of_reads (d := (0 : Int)) (h1 := fun _ => rfl) hr0) hc0 h ⟨rfl⟩).mono ?_
  rintro e w' ⟨rfl, hd⟩
  exact ⟨rfl, hd⟩

end Go.Proofs.Ytncgbkmhigdflaa.P
