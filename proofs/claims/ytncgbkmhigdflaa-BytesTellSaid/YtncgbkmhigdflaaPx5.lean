-- Written by this session's own program wip/gen.py; Lean checks it.
import Derived.Test.YtncgbkmhigdflaaPx0
import Derived.Test.YtncgbkmhigdflaaPx7
import Derived.Test.YtncgbkmhigdflaaPx8
import Derived.Test.YtncgbkmhigdflaaPx14
import Derived.Test.YtncgbkmhigdflaaPx15
import Derived.Test.YtncgbkmhigdflaaPx23
namespace Go.Proofs.Ytncgbkmhigdflaa.P
open Go.RowKit Go.Proofs.YtncgbkmhigdflaaW.PrintWords Go.Proofs.YtncgbkmhigdflaaW.PrintLast Go.Proofs.YtncgbkmhigdflaaW.PrintMore
attribute [local go_sem] max2_int min2_int max_two min_two max_three min_three max_four min_four   -- for this text's walks alone
set_option linter.unusedVariables false
set_option linter.unusedSimpArgs false

/-! ### topiaristlaw20_BytesNums: function 5 -/
mutual
def topiaristlaw20_BytesNums.l0 : Nat → Int → List Int → List Int → Int → Int → Int → Option (Bool)
  | 0, _, _, _, _, _, _ => none
  | k + 1, x1, x5, x6, x7, x8, x9 => if x9 ≥ 128 then (topiaristlaw20_BytesNums.l0 k x1 x5 x6 x7 (wrap64 (x8 + 1)) (wrap64 (Int.tdiv x9 128))) else (if (x5.length : Int) = x8 then (if (x6.length : Int) < 1 then (topiaristlaw20_BytesNums.j1 k x1 x5 x6 x7 x8 true) else (topiaristlaw20_BytesNums.j1 k x1 x5 x6 x7 x8 (decide ((x6.length : Int) > 5)))) else (topiaristlaw20_BytesNums.j1 k x1 x5 x6 x7 x8 true))
def topiaristlaw20_BytesNums.j1 : Nat → Int → List Int → List Int → Int → Int → Bool → Option (Bool)
  | 0, _, _, _, _, _, _ => none
  | k + 1, x1, x5, x6, x7, x8, x40 => if x40 = true then (some false) else (topiaristlaw20_BytesNums.l1 k x1 x5 x6 x7 x8 0)
def topiaristlaw20_BytesNums.l1 : Nat → Int → List Int → List Int → Int → Int → Int → Option (Bool)
  | 0, _, _, _, _, _, _ => none
  | k + 1, x1, x5, x6, x7, x8, x10 => if x10 < (x5.length : Int) then (if 0 ≤ x10 then (if ((decide ((rd x5 x10) ≥ 128)) != (decide ((wrap64 (x10 + 1)) < (x5.length : Int)))) = true then (some false) else (topiaristlaw20_BytesNums.l1 k x1 x5 x6 x7 x8 (wrap64 (x10 + 1)))) else (none)) else ((some (([] : List Int) : List Int)).bind fun y109 => (if y109.length + x5.length < 140737488355328 then ((some (y109 ++ x5 : List Int)).bind fun y112 => (if y112.length < 140737488355328 then ((bytes_ReadNum.f (y112 ++ [255])).bind fun bt118 => (if bt118.2.2 = 0 then (if bt118.1 = x7 then (if bt118.2.1 = x8 then ((topiaristkeep_Bytes.f x5 x6).bind fun t121 => ((topiaristlaw20_held.f x1).bind fun t122 => (if (t121 == (x7 == t122)) = true then ((topiaristlaw20_wakes.f k).bind fun t123 => (some t123)) else (some false)))) else (some false)) else (some false)) else (some false))) else (none))) else (none)))
end
def topiaristlaw20_BytesNums.f (k : Nat) (a0 : Int) (a1 : Int) : Option (Bool) := (bytes_Num.f k ([] : List Int) a0).bind fun t101 => ((bytes_Num.f k ([] : List Int) a1).bind fun t104 => ((topiaristlaw20_held.f a0).bind fun t107 => (topiaristlaw20_BytesNums.l0 k a1 t101 t104 t107 1 t107)))
theorem topiaristlaw20_BytesNums.mono_l : ∀ k, (∀ y0 y1 y2 y3 y4 y5, LeO (topiaristlaw20_BytesNums.l0 k y0 y1 y2 y3 y4 y5) (topiaristlaw20_BytesNums.l0 (k + 1) y0 y1 y2 y3 y4 y5)) ∧ (∀ y0 y1 y2 y3 y4 y5, LeO (topiaristlaw20_BytesNums.j1 k y0 y1 y2 y3 y4 y5) (topiaristlaw20_BytesNums.j1 (k + 1) y0 y1 y2 y3 y4 y5)) ∧ (∀ y0 y1 y2 y3 y4 y5, LeO (topiaristlaw20_BytesNums.l1 k y0 y1 y2 y3 y4 y5) (topiaristlaw20_BytesNums.l1 (k + 1) y0 y1 y2 y3 y4 y5))
  | 0 => ⟨fun _ _ _ _ _ _ r h => by simp [topiaristlaw20_BytesNums.l0] at h, fun _ _ _ _ _ _ r h => by simp [topiaristlaw20_BytesNums.j1] at h, fun _ _ _ _ _ _ r h => by simp [topiaristlaw20_BytesNums.l1] at h⟩
  | k + 1 => by
    obtain ⟨ih0, ih1, ih2⟩ := topiaristlaw20_BytesNums.mono_l k
    refine ⟨?_, ?_, ?_⟩
    · intro y0 y1 y2 y3 y4 y5
      unfold topiaristlaw20_BytesNums.l0
      repeat' first
      | (with_reducible exact ih0 _ _ _ _ _ _)
      | (with_reducible exact ih1 _ _ _ _ _ _)
      | (with_reducible exact ih2 _ _ _ _ _ _)
      | (with_reducible exact bytes_Num.mono _ _ _)
      | (with_reducible exact topiaristlaw20_wakes.mono _)
      | (with_reducible exact LeO.refl _)
      | (with_reducible exact LeO.none _)
      | (with_reducible refine LeO.ite ?_ ?_)
      | (with_reducible refine LeO.bind ?_ (fun _ => ?_))
      | exact ih0 _ _ _ _ _ _
      | exact ih1 _ _ _ _ _ _
      | exact ih2 _ _ _ _ _ _
      | exact bytes_Num.mono _ _ _
      | exact topiaristlaw20_wakes.mono _
      | exact LeO.none _
      | refine LeO.ite ?_ ?_
      | refine LeO.bind ?_ (fun _ => ?_)
    · intro y0 y1 y2 y3 y4 y5
      unfold topiaristlaw20_BytesNums.j1
      repeat' first
      | (with_reducible exact ih0 _ _ _ _ _ _)
      | (with_reducible exact ih1 _ _ _ _ _ _)
      | (with_reducible exact ih2 _ _ _ _ _ _)
      | (with_reducible exact bytes_Num.mono _ _ _)
      | (with_reducible exact topiaristlaw20_wakes.mono _)
      | (with_reducible exact LeO.refl _)
      | (with_reducible exact LeO.none _)
      | (with_reducible refine LeO.ite ?_ ?_)
      | (with_reducible refine LeO.bind ?_ (fun _ => ?_))
      | exact ih0 _ _ _ _ _ _
      | exact ih1 _ _ _ _ _ _
      | exact ih2 _ _ _ _ _ _
      | exact bytes_Num.mono _ _ _
      | exact topiaristlaw20_wakes.mono _
      | exact LeO.none _
      | refine LeO.ite ?_ ?_
      | refine LeO.bind ?_ (fun _ => ?_)
    · intro y0 y1 y2 y3 y4 y5
      unfold topiaristlaw20_BytesNums.l1
      repeat' first
      | (with_reducible exact ih0 _ _ _ _ _ _)
      | (with_reducible exact ih1 _ _ _ _ _ _)
      | (with_reducible exact ih2 _ _ _ _ _ _)
      | (with_reducible exact bytes_Num.mono _ _ _)
      | (with_reducible exact topiaristlaw20_wakes.mono _)
      | (with_reducible exact LeO.refl _)
      | (with_reducible exact LeO.none _)
      | (with_reducible refine LeO.ite ?_ ?_)
      | (with_reducible refine LeO.bind ?_ (fun _ => ?_))
      | exact ih0 _ _ _ _ _ _
      | exact ih1 _ _ _ _ _ _
      | exact ih2 _ _ _ _ _ _
      | exact bytes_Num.mono _ _ _
      | exact topiaristlaw20_wakes.mono _
      | exact LeO.none _
      | refine LeO.ite ?_ ?_
      | refine LeO.bind ?_ (fun _ => ?_)
theorem topiaristlaw20_BytesNums.mono : ∀ a0 a1 k, LeO (topiaristlaw20_BytesNums.f k a0 a1) (topiaristlaw20_BytesNums.f (k + 1) a0 a1) := by
  intro a0 a1 k
  obtain ⟨ih0, ih1, ih2⟩ := topiaristlaw20_BytesNums.mono_l k
  unfold topiaristlaw20_BytesNums.f
  repeat' first
      | (with_reducible exact ih0 _ _ _ _ _ _)
      | (with_reducible exact ih1 _ _ _ _ _ _)
      | (with_reducible exact ih2 _ _ _ _ _ _)
      | (with_reducible exact bytes_Num.mono _ _ _)
      | (with_reducible exact topiaristlaw20_wakes.mono _)
      | (with_reducible exact LeO.refl _)
      | (with_reducible exact LeO.none _)
      | (with_reducible refine LeO.ite ?_ ?_)
      | (with_reducible refine LeO.bind ?_ (fun _ => ?_))
      | exact ih0 _ _ _ _ _ _
      | exact ih1 _ _ _ _ _ _
      | exact ih2 _ _ _ _ _ _
      | exact bytes_Num.mono _ _ _
      | exact topiaristlaw20_wakes.mono _
      | exact LeO.none _
      | refine LeO.ite ?_ ?_
      | refine LeO.bind ?_ (fun _ => ?_)
set_option maxHeartbeats 8000000 in
set_option maxRecDepth 100000 in
theorem topiaristlaw20_BytesNums.calls (k : Nat) (a0 : Int) (a1 : Int) (r : Bool) (w : World) (h : topiaristlaw20_BytesNums.f k a0 a1 = some r) (hrt : Aside0 (r = true)) :
    Calls Try.prog 5 #[.int .i64 a0, .int .i64 a1] w fun e w' => e = .returned (.bool r) ∧ Below w.heap.size w w' := by
  have HB := Aside0.mk (Below.refl w.heap.size w)
  have H : ((bytes_Num.f k ([] : List Int) a0).bind fun t101 => ((bytes_Num.f k ([] : List Int) a1).bind fun t104 => ((topiaristlaw20_held.f a0).bind fun t107 => (topiaristlaw20_BytesNums.l0 k a1 t101 t104 t107 1 t107)))) = some r := h
  clear h
  replace H := Option.bind_eq_some_iff.mp H
  obtain ⟨t101, A30, H⟩ := H
  replace H : ((bytes_Num.f k ([] : List Int) a1).bind fun t104 => ((topiaristlaw20_held.f a0).bind fun t107 => (topiaristlaw20_BytesNums.l0 k a1 t101 t104 t107 1 t107))) = some r := H
  have A3 := Aside0.mk A30
  clear A30
  replace H := Option.bind_eq_some_iff.mp H
  obtain ⟨t104, A40, H⟩ := H
  replace H : ((topiaristlaw20_held.f a0).bind fun t107 => (topiaristlaw20_BytesNums.l0 k a1 t101 t104 t107 1 t107)) = some r := H
  have A4 := Aside0.mk A40
  clear A40
  replace H := Option.bind_eq_some_iff.mp H
  obtain ⟨t107, A50, H⟩ := H
  replace H : (topiaristlaw20_BytesNums.l0 k a1 t101 t104 t107 1 t107) = some r := H
  have A5 := Aside0.mk A50
  clear A50
  have H' := Aside0.mk H
  clear H
  go_enter Try.func5, Try.ntmps5
  go_wp2_with (first | ((with_reducible refine gate_callee (f := 15) rfl ?_); refine goesL_ (some 15) rfl rfl Try.func15 (by kernel_rfl) rfl #[.slice none 0 0, .int .i64 a0] rfl (by (try simp only [List.map_toArray, List.map_cons, List.map_nil]); first | done | rfl | (simp only [List.length_drop, List.length_take]; rfl)) ?_; (refine (bytes_Num.calls k _ _ ([] : List Int) a0 t101 _ ?side1 ?side2 A3.out).mono ?_); (case side1 => exact Kd.C_nil _ _); (case side2 => exact Nat.le_refl _); rintro e w6 ⟨v102, rfl, ho0, hb⟩; refine ⟨_, rfl, ?_⟩; have n0_ := Aside0.mk (Kd.R_lower ho0 (below_size (by repeat (first | (with_reducible first | exact HB.out | apply below_alloc | apply pw_below_drewN | apply below_drew1) | exact HB.out)))); have n1_ := Aside0.mk (below_step (by repeat (first | (with_reducible first | exact HB.out | apply below_alloc | apply pw_below_drewN | apply below_drew1) | exact HB.out)) hb); clear HB; have HO103 := n0_; have HB := n1_; clear n0_ n1_; (try clear hb); (try clear hb2); (try clear hk); (try clear hi); (try clear ho0)) | ((with_reducible refine gate_callee (f := 15) rfl ?_); refine goesL_ (some 17) rfl rfl Try.func15 (by kernel_rfl) rfl #[.slice none 0 0, .int .i64 a1] rfl (by (try simp only [List.map_toArray, List.map_cons, List.map_nil]); first | done | rfl | (simp only [List.length_drop, List.length_take]; rfl)) ?_; (refine (bytes_Num.calls k _ _ ([] : List Int) a1 t104 _ ?side1 ?side2 A4.out).mono ?_); (case side1 => exact Kd.C_nil _ _); (case side2 => exact Nat.le_refl _); rintro e w7 ⟨v105, rfl, ho0, hb⟩; refine ⟨_, rfl, ?_⟩; have n0_ := Aside0.mk (Kd.R_elder' (by (with_reducible repeat (first | apply Kd.R_alloc | apply Kd.R_drewN | apply Kd.R_drew)); exact HO103.out) (Kd.R_base ho0) hb); have n1_ := Aside0.mk (Kd.R_lower (Kd.R_new' ho0 (Kd.R_lt (by (with_reducible repeat (first | apply Kd.R_alloc | apply Kd.R_drewN | apply Kd.R_drew)); exact HO103.out))) (below_size (by repeat (first | (with_reducible first | exact HB.out | apply below_alloc | apply pw_below_drewN | apply below_drew1) | exact HB.out)))); have n2_ := Aside0.mk (below_step (by repeat (first | (with_reducible first | exact HB.out | apply below_alloc | apply pw_below_drewN | apply below_drew1) | exact HB.out)) hb); clear HO103; clear HB; have HO103 := n0_; have HO106 := n1_; have HB := n2_; clear n0_ n1_ n2_; (try clear hb); (try clear hb2); (try clear hk); (try clear hi); (try clear ho0)) | ((with_reducible refine gate_callee (f := 23) rfl ?_); refine goesL_ (some 19) rfl rfl Try.func23 (by kernel_rfl) rfl #[.int .i64 a0] rfl (by (try simp only [List.map_toArray, List.map_cons, List.map_nil]); first | done | rfl | (simp only [List.length_drop, List.length_take]; rfl)) ?_; (with_reducible refine (topiaristlaw20_held.calls a0 t107 _ A5.out).mono ?_); rintro e w8 ⟨rfl, hb⟩; refine ⟨_, rfl, ?_⟩; have n0_ := Aside0.mk (Kd.R_below (by (with_reducible repeat (first | apply Kd.R_alloc | apply Kd.R_drewN | apply Kd.R_drew)); exact HO103.out) hb); have n1_ := Aside0.mk (Kd.R_below (by (with_reducible repeat (first | apply Kd.R_alloc | apply Kd.R_drewN | apply Kd.R_drew)); exact HO106.out) hb); have n2_ := Aside0.mk (below_step (by repeat (first | (with_reducible first | exact HB.out | apply below_alloc | apply pw_below_drewN | apply below_drew1) | exact HB.out)) hb); clear HO103; clear HO106; clear HB; have HO103 := n0_; have HO106 := n1_; have HB := n2_; clear n0_ n1_ n2_; (try clear hb); (try clear hb2); (try clear hk); (try clear hi)))
  go_loopg [8, 9] k (fun kq v8 v9 w' => ∃ (x8_1 : Int) (x9_1 : Int), v8 = .int .i64 x8_1 ∧ v9 = .int .i64 x9_1 ∧ Aside0 (topiaristlaw20_BytesNums.l0 kq a1 t101 t104 t107 x8_1 x9_1 = some r) ∧ Aside0 (kq ≤ k) ∧ Aside0 (Kd.R (Kd.int .u8) 5 w' w.heap.size (fun k_ => some k_ ≠ (v105 : Value).ownBlock) v102 t101) ∧ Aside0 (Kd.R (Kd.int .u8) 5 w' w.heap.size (fun k_ => some k_ ≠ (v102 : Value).ownBlock) v105 t104) ∧ Aside0 (Below w.heap.size w w'))
  case atStart => exact ⟨(1), (t107), (by first | rfl | (simp; done) | (simp [*]; done)), (by first | rfl | (simp; done) | (simp [*]; done)), H', ⟨Nat.le_refl _⟩, ⟨by (with_reducible repeat (first | apply Kd.R_alloc | apply Kd.R_drewN | apply Kd.R_drew)); exact Kd.R_mono HO103.out (fun _ hk => hk.2)⟩, ⟨by (with_reducible repeat (first | apply Kd.R_alloc | apply Kd.R_drewN | apply Kd.R_drew)); exact Kd.R_mono HO106.out (fun _ hk => hk.2)⟩, ⟨by repeat (first | (with_reducible first | exact HB.out | apply below_alloc | apply pw_below_drewN | apply below_drew1) | exact HB.out)⟩⟩
  case round =>
    clear H'
    try clear c1
    try clear c2
    try clear p2
    try clear c5
    obtain ⟨x8_1, x9_1, rfl, rfl, HA, HK1, HO_5, HO_6, HB⟩ := hrel
    cases gk with
    | zero => exact absurd HA.out (by simp [topiaristlaw20_BytesNums.l0])
    | succ k1 =>
      have H := HA.out
      clear HA
      simp only [topiaristlaw20_BytesNums.l0] at H
      by_cases c9 : x9_1 ≥ 128
      · rw [if_pos c9] at H
        have c9b0 : decide (128 ≤ x9_1) = true := decide_eq_true c9
        clear c9
        have H' := Aside0.mk H
        clear H
        go_wp2
        go_roundg k1
        case measure => have := HK1.out; omega
        case rel => exact ⟨(wrap64 (x8_1 + 1)), (wrap64 (Int.tdiv x9_1 128)), (by first | rfl | (simp; done) | (simp [*]; done)), (by first | rfl | (simp; done) | (simp [*]; done)), H', ⟨by have := HK1.out; omega⟩, ⟨by (with_reducible repeat (first | apply Kd.R_alloc | apply Kd.R_drewN | apply Kd.R_drew)); exact HO_5.out⟩, ⟨by (with_reducible repeat (first | apply Kd.R_alloc | apply Kd.R_drewN | apply Kd.R_drew)); exact HO_6.out⟩, ⟨by repeat (first | (with_reducible first | exact HB.out | apply below_alloc | apply pw_below_drewN | apply below_drew1) | exact HB.out)⟩⟩
      · rw [if_neg c9] at H
        have c9b0 : decide (128 ≤ x9_1) = false := decide_eq_false c9
        clear c9
        have HC10 := Aside0.mk H
        clear H
        go_upto_region 8 with (fail)
        go_cut [40] (fun v40 wc => ∃ (kq : Nat) (x40_9 : Bool), v40 = .bool x40_9 ∧ Aside0 (topiaristlaw20_BytesNums.j1 kq a1 t101 t104 t107 x8_1 x40_9 = some r) ∧ Aside0 (kq ≤ k1) ∧ Aside0 (Kd.R (Kd.int .u8) 5 wc w.heap.size (fun k_ => some k_ ≠ (v105 : Value).ownBlock) v102 t101) ∧ Aside0 (Kd.R (Kd.int .u8) 5 wc w.heap.size (fun k_ => some k_ ≠ (v102 : Value).ownBlock) v105 t104) ∧ Aside0 (Below w.heap.size w wc))
        case first =>
          have H := HC10.out
          clear HC10
          by_cases c11 : (t101.length : Int) = x8_1
          · rw [if_pos c11] at H
            have c11b0 : ((t101.length : Int) == x8_1) = true := beq_iff_eq.mpr c11
            have c11b1 : ((t101.length : Int) != x8_1) = false := bne_eq_false_iff_eq.mpr c11
            clear c11
            (first | rw [c11b0] | (simp only [i64_w, i32_w]; rw [c11b0]) | skip)
            by_cases c12 : (t104.length : Int) < 1
            · rw [if_pos c12] at H
              have c12b0 : decide ((t104.length : Int) < 1) = true := decide_eq_true c12
              have c12b1 : decide (t104.length < 1) = true := decide_eq_true (by omega)
              clear c12
              have H' := Aside0.mk H
              clear H
              obtain ⟨Ao13, co13, eo13⟩ := Kd.R_slice HO_5.out
              subst eo13
              obtain ⟨Ao14, co14, eo14⟩ := Kd.R_slice HO_6.out
              subst eo14
              go_wp2
              go_meet
              case rel => exact ⟨_, (true), (by first | rfl | (simp; done) | (simp [*]; done)), H', ⟨by have := HK1.out; first | omega | exact Nat.le_refl _⟩, ⟨by (with_reducible repeat (first | apply Kd.R_alloc | apply Kd.R_drewN | apply Kd.R_drew)); exact HO_5.out⟩, ⟨by (with_reducible repeat (first | apply Kd.R_alloc | apply Kd.R_drewN | apply Kd.R_drew)); exact HO_6.out⟩, ⟨by repeat (first | (with_reducible first | exact HB.out | apply below_alloc | apply pw_below_drewN | apply below_drew1) | exact HB.out)⟩⟩
            · rw [if_neg c12] at H
              have c12b0 : decide ((t104.length : Int) < 1) = false := decide_eq_false c12
              have c12b1 : decide (t104.length < 1) = false := decide_eq_false (by omega)
              clear c12
              have H' := Aside0.mk H
              clear H
              obtain ⟨Ao15, co15, eo15⟩ := Kd.R_slice HO_5.out
              subst eo15
              obtain ⟨Ao16, co16, eo16⟩ := Kd.R_slice HO_6.out
              subst eo16
              go_wp2
              go_meet
              case rel => exact ⟨_, (decide ((t104.length : Int) > 5)), (by first | rfl | (simp; done) | (simp [*]; done)), H', ⟨by have := HK1.out; first | omega | exact Nat.le_refl _⟩, ⟨by (with_reducible repeat (first | apply Kd.R_alloc | apply Kd.R_drewN | apply Kd.R_drew)); exact HO_5.out⟩, ⟨by (with_reducible repeat (first | apply Kd.R_alloc | apply Kd.R_drewN | apply Kd.R_drew)); exact HO_6.out⟩, ⟨by repeat (first | (with_reducible first | exact HB.out | apply below_alloc | apply pw_below_drewN | apply below_drew1) | exact HB.out)⟩⟩
          · rw [if_neg c11] at H
            have c11b0 : ((t101.length : Int) == x8_1) = false := beq_eq_false_iff_ne.mpr c11
            have c11b1 : ((t101.length : Int) != x8_1) = true := bne_iff_ne.mpr c11
            (first | rw [c11b0] | (simp only [i64_w, i32_w]; rw [c11b0]) | skip)
            have H' := Aside0.mk H
            clear H
            obtain ⟨Ao17, co17, eo17⟩ := Kd.R_slice HO_5.out
            subst eo17
            go_wp2
            go_meet
            case rel => exact ⟨_, (true), (by first | rfl | (simp; done) | (simp [*]; done)), H', ⟨by have := HK1.out; first | omega | exact Nat.le_refl _⟩, ⟨by (with_reducible repeat (first | apply Kd.R_alloc | apply Kd.R_drewN | apply Kd.R_drew)); exact HO_5.out⟩, ⟨by (with_reducible repeat (first | apply Kd.R_alloc | apply Kd.R_drewN | apply Kd.R_drew)); exact HO_6.out⟩, ⟨by repeat (first | (with_reducible first | exact HB.out | apply below_alloc | apply pw_below_drewN | apply below_drew1) | exact HB.out)⟩⟩
        case rest =>
          clear HC10
          try clear c1
          try clear c2
          try clear p2
          try clear c5
          try clear p6
          try clear c9
          try clear c9b0
          try clear c11
          try clear c11b0
          try clear c11b1
          try clear c12
          try clear c12b0
          try clear c12b1
          try clear c15
          try clear p2
          obtain ⟨kq, x40_9, rfl, HA, HJ9, HO_5, HO_6, HB⟩ := hcut
          cases kq with
          | zero => exact absurd HA.out (by simp [topiaristlaw20_BytesNums.j1])
          | succ kj9 =>
            have H := HA.out
            clear HA
            simp only [topiaristlaw20_BytesNums.j1] at H
            by_cases c18 : x40_9 = true
            · subst c18
              have H1 : (some false) = some r := by rw [if_pos rfl] at H; exact H
              clear H
              have H := H1
              clear H1
              exact absurd ((Option.some.inj H).trans hrt.out) Bool.false_ne_true
            · replace c18 := Bool.eq_false_iff.mpr c18
              subst c18
              have H1 : (topiaristlaw20_BytesNums.l1 kj9 a1 t101 t104 t107 x8_1 0) = some r := by rw [if_neg (show ¬ (false = true) by decide)] at H; exact H
              clear H
              have H := H1
              clear H1
              have H' := Aside0.mk H
              clear H
              go_wp2
              go_loopg [10] kj9 (fun kq v10 w' => ∃ (x10_3 : Int), v10 = .int .i64 x10_3 ∧ Aside0 (topiaristlaw20_BytesNums.l1 kq a1 t101 t104 t107 x8_1 x10_3 = some r) ∧ Aside0 (kq ≤ kj9) ∧ Aside0 (Kd.R (Kd.int .u8) 5 w' w.heap.size (fun k_ => some k_ ≠ (v105 : Value).ownBlock) v102 t101) ∧ Aside0 (Kd.R (Kd.int .u8) 5 w' w.heap.size (fun k_ => some k_ ≠ (v102 : Value).ownBlock) v105 t104) ∧ Aside0 (Below w.heap.size w w'))
              case atStart => exact ⟨(0), (by first | rfl | (simp; done) | (simp [*]; done)), H', ⟨Nat.le_refl _⟩, ⟨by (with_reducible repeat (first | apply Kd.R_alloc | apply Kd.R_drewN | apply Kd.R_drew)); exact HO_5.out⟩, ⟨by (with_reducible repeat (first | apply Kd.R_alloc | apply Kd.R_drewN | apply Kd.R_drew)); exact HO_6.out⟩, ⟨by repeat (first | (with_reducible first | exact HB.out | apply below_alloc | apply pw_below_drewN | apply below_drew1) | exact HB.out)⟩⟩
              case round =>
                clear H'
                try clear c1
                try clear c2
                try clear p2
                try clear c5
                try clear p6
                try clear c9
                try clear c9b0
                try clear c11
                try clear c11b0
                try clear c11b1
                try clear c12
                try clear c12b0
                try clear c12b1
                try clear c15
                try clear c18
                try clear p2
                try clear p6
                obtain ⟨x10_3, rfl, HA, HK3, HO_5, HO_6, HB⟩ := hrel
                cases gk with
                | zero => exact absurd HA.out (by simp [topiaristlaw20_BytesNums.l1])
                | succ k3 =>
                  have H := HA.out
                  clear HA
                  simp only [topiaristlaw20_BytesNums.l1] at H
                  by_cases c19 : x10_3 < (t101.length : Int)
                  · rw [if_pos c19] at H
                    have c19b0 : decide (x10_3 < (t101.length : Int)) = true := decide_eq_true c19
                    clear c19
                    by_cases c20 : 0 ≤ x10_3
                    · rw [if_pos c20] at H
                      have c20b0 : decide (0 ≤ x10_3) = true := decide_eq_true c20
                      clear c20
                      by_cases c21 : ((decide ((rd t101 x10_3) ≥ 128)) != (decide ((wrap64 (x10_3 + 1)) < (t101.length : Int)))) = true
                      · rw [if_pos c21] at H
                        have c21b0 : ((decide ((rd t101 x10_3) ≥ 128)) != (decide ((wrap64 (x10_3 + 1)) < (t101.length : Int)))) = true := c21
                        (try (have c21b1 : decide ((decide ((rd t101 x10_3) ≥ 128)) = (decide ((wrap64 (x10_3 + 1)) < (t101.length : Int)))) = false := by simpa using c21))
                        (try (have c21b2 : ((decide ((rd t101 x10_3) ≥ 128)) == (decide ((wrap64 (x10_3 + 1)) < (t101.length : Int)))) = false := by simpa using c21))
                        (try (have c21b3 : ¬ ((decide ((rd t101 x10_3) ≥ 128)) = (decide ((wrap64 (x10_3 + 1)) < (t101.length : Int)))) := by simpa using c21))
                        clear c21
                        obtain rfl := Option.some.inj H
                        obtain ⟨Ao22, co22, eo22⟩ := Kd.R_slice HO_5.out
                        subst eo22
                        have p108 : 0 ≤ (x10_3 : Int) := of_decide_eq_true (by first | (with_reducible assumption) | assumption)
                        have q108 : x10_3 < (t101.length : Int) := of_decide_eq_true (by first | (with_reducible assumption) | assumption)
                        obtain ⟨ad108, e108, hx108_0⟩ := Kd.at_int (Kd.R_reads' HO_5.out).2.2 x10_3 p108 q108
                        cases e108
                        replace p108 := eq_true p108
                        replace q108 := eq_true q108
                        go_wp2
                        go_ret
                        exact ⟨by first | rfl | (simp [errW_none, errW_some] <;> rfl) | (simp [*, errW_none, errW_some] <;> rfl), by repeat (first | (with_reducible first | exact HB.out | apply below_alloc | apply pw_below_drewN | apply below_drew1) | exact HB.out)⟩
                      · rw [if_neg c21] at H
                        have c21b0 : ((decide ((rd t101 x10_3) ≥ 128)) != (decide ((wrap64 (x10_3 + 1)) < (t101.length : Int)))) = false := by simpa using c21
                        (try (have c21b1 : decide ((decide ((rd t101 x10_3) ≥ 128)) = (decide ((wrap64 (x10_3 + 1)) < (t101.length : Int)))) = true := by simpa using c21))
                        (try (have c21b2 : ((decide ((rd t101 x10_3) ≥ 128)) == (decide ((wrap64 (x10_3 + 1)) < (t101.length : Int)))) = true := by simpa using c21))
                        clear c21
                        have H' := Aside0.mk H
                        clear H
                        obtain ⟨Ao23, co23, eo23⟩ := Kd.R_slice HO_5.out
                        subst eo23
                        have p108 : 0 ≤ (x10_3 : Int) := of_decide_eq_true (by first | (with_reducible assumption) | assumption)
                        have q108 : x10_3 < (t101.length : Int) := of_decide_eq_true (by first | (with_reducible assumption) | assumption)
                        obtain ⟨ad108, e108, hx108_0⟩ := Kd.at_int (Kd.R_reads' HO_5.out).2.2 x10_3 p108 q108
                        cases e108
                        replace p108 := eq_true p108
                        replace q108 := eq_true q108
                        go_wp2
                        go_roundg k3
                        case measure => have := HK1.out; have := HJ9.out; have := HK3.out; omega
                        case rel => exact ⟨(wrap64 (x10_3 + 1)), (by first | rfl | (simp; done) | (simp [*]; done)), H', ⟨by have := HK1.out; have := HJ9.out; have := HK3.out; omega⟩, ⟨by (with_reducible repeat (first | apply Kd.R_alloc | apply Kd.R_drewN | apply Kd.R_drew)); exact HO_5.out⟩, ⟨by (with_reducible repeat (first | apply Kd.R_alloc | apply Kd.R_drewN | apply Kd.R_drew)); exact HO_6.out⟩, ⟨by repeat (first | (with_reducible first | exact HB.out | apply below_alloc | apply pw_below_drewN | apply below_drew1) | exact HB.out)⟩⟩
                    · rw [if_neg c20] at H
                      exact absurd H (by simp)
                  · rw [if_neg c19] at H
                    have c19b0 : decide (x10_3 < (t101.length : Int)) = false := decide_eq_false c19
                    clear c19
                    obtain ⟨y109, hy109⟩ : ∃ y_ : List Int, y_ = (([] : List Int)) := ⟨_, rfl⟩
                    replace H : (if y109.length + t101.length < 140737488355328 then ((some (y109 ++ t101 : List Int)).bind fun y112 => (if y112.length < 140737488355328 then ((bytes_ReadNum.f (y112 ++ [255])).bind fun bt118 => (if bt118.2.2 = 0 then (if bt118.1 = t107 then (if bt118.2.1 = x8_1 then ((topiaristkeep_Bytes.f t101 t104).bind fun t121 => ((topiaristlaw20_held.f a1).bind fun t122 => (if (t121 == (t107 == t122)) = true then ((topiaristlaw20_wakes.f k3).bind fun t123 => (some t123)) else (some false)))) else (some false)) else (some false)) else (some false))) else (none))) else (none)) = some r := by first | (rw [hy109]; with_reducible exact H) | (have H2_ := (Option.bind_some _ _).symm.trans H; rw [hy109]; with_reducible exact H2_) | (have H2_ := (Option.bind_some _ _).symm.trans H; with_reducible exact H2_) | with_reducible exact H | (rw [hy109]; exact H) | exact H
                    have Ny109 := Aside0.mk hy109
                    clear hy109
                    by_cases c24 : y109.length + t101.length < 140737488355328
                    · rw [if_pos c24] at H
                      have LMc24 := Aside0.mk c24
                      clear c24
                      obtain ⟨y112, hy112⟩ : ∃ y_ : List Int, y_ = (y109 ++ t101) := ⟨_, rfl⟩
                      replace H : (if y112.length < 140737488355328 then ((bytes_ReadNum.f (y112 ++ [255])).bind fun bt118 => (if bt118.2.2 = 0 then (if bt118.1 = t107 then (if bt118.2.1 = x8_1 then ((topiaristkeep_Bytes.f t101 t104).bind fun t121 => ((topiaristlaw20_held.f a1).bind fun t122 => (if (t121 == (t107 == t122)) = true then ((topiaristlaw20_wakes.f k3).bind fun t123 => (some t123)) else (some false)))) else (some false)) else (some false)) else (some false))) else (none)) = some r := by first | (rw [hy112]; with_reducible exact H) | (have H2_ := (Option.bind_some _ _).symm.trans H; rw [hy112]; with_reducible exact H2_) | (have H2_ := (Option.bind_some _ _).symm.trans H; with_reducible exact H2_) | with_reducible exact H | (rw [hy112]; exact H) | exact H
                      have Ny112 := Aside0.mk hy112
                      clear hy112
                      by_cases c25 : y112.length < 140737488355328
                      · rw [if_pos c25] at H
                        have LMc25 := Aside0.mk c25
                        clear c25
                        obtain ⟨y115, hy115⟩ : ∃ y_ : List Int, y_ = (y112 ++ [255]) := ⟨_, rfl⟩
                        replace H : ((bytes_ReadNum.f y115).bind fun bt118 => (if bt118.2.2 = 0 then (if bt118.1 = t107 then (if bt118.2.1 = x8_1 then ((topiaristkeep_Bytes.f t101 t104).bind fun t121 => ((topiaristlaw20_held.f a1).bind fun t122 => (if (t121 == (t107 == t122)) = true then ((topiaristlaw20_wakes.f k3).bind fun t123 => (some t123)) else (some false)))) else (some false)) else (some false)) else (some false))) = some r := by first | (rw [hy115]; with_reducible exact H) | (have H2_ := (Option.bind_some _ _).symm.trans H; rw [hy115]; with_reducible exact H2_) | (have H2_ := (Option.bind_some _ _).symm.trans H; with_reducible exact H2_) | with_reducible exact H | (rw [hy115]; exact H) | exact H
                        have Ny115 := Aside0.mk hy115
                        clear hy115
                        replace H := Option.bind_eq_some_iff.mp H
                        obtain ⟨⟨t118, t119, t120⟩, A260, H⟩ := H
                        replace H : (if t120 = 0 then (if t118 = t107 then (if t119 = x8_1 then ((topiaristkeep_Bytes.f t101 t104).bind fun t121 => ((topiaristlaw20_held.f a1).bind fun t122 => (if (t121 == (t107 == t122)) = true then ((topiaristlaw20_wakes.f k3).bind fun t123 => (some t123)) else (some false)))) else (some false)) else (some false)) else (some false)) = some r := H
                        have A26 := Aside0.mk A260
                        clear A260
                        by_cases c27 : t120 = 0
                        · rw [if_pos c27] at H
                          have c27b0 : (t120 == 0) = true := beq_iff_eq.mpr c27
                          have c27b1 : (t120 != 0) = false := bne_eq_false_iff_eq.mpr c27
                          clear c27
                          by_cases c28 : t118 = t107
                          · rw [if_pos c28] at H
                            have c28b0 : (t118 == t107) = true := beq_iff_eq.mpr c28
                            have c28b1 : (t118 != t107) = false := bne_eq_false_iff_eq.mpr c28
                            clear c28
                            by_cases c29 : t119 = x8_1
                            · rw [if_pos c29] at H
                              have c29b0 : (t119 == x8_1) = true := beq_iff_eq.mpr c29
                              have c29b1 : (t119 != x8_1) = false := bne_eq_false_iff_eq.mpr c29
                              clear c29
                              replace H := Option.bind_eq_some_iff.mp H
                              obtain ⟨t121, A300, H⟩ := H
                              replace H : ((topiaristlaw20_held.f a1).bind fun t122 => (if (t121 == (t107 == t122)) = true then ((topiaristlaw20_wakes.f k3).bind fun t123 => (some t123)) else (some false))) = some r := H
                              have A30 := Aside0.mk A300
                              clear A300
                              replace H := Option.bind_eq_some_iff.mp H
                              obtain ⟨t122, A310, H⟩ := H
                              replace H : (if (t121 == (t107 == t122)) = true then ((topiaristlaw20_wakes.f k3).bind fun t123 => (some t123)) else (some false)) = some r := H
                              have A31 := Aside0.mk A310
                              clear A310
                              by_cases c32 : (t121 == (t107 == t122)) = true
                              · rw [if_pos c32] at H
                                have c32b0 : (t121 == (t107 == t122)) = true := c32
                                (try (have c32b1 : decide (t121 = (t107 == t122)) = true := by simpa using c32))
                                (try (have c32b2 : (t121 == (t107 == t122)) = true := by simpa using c32))
                                clear c32
                                replace H := Option.bind_eq_some_iff.mp H
                                obtain ⟨t123, A330, H⟩ := H
                                replace H : (some t123) = some r := H
                                have A33 := Aside0.mk A330
                                clear A330
                                obtain rfl := Option.some.inj H
                                obtain ⟨Ao34, co34, eo34⟩ := Kd.R_slice HO_5.out
                                subst eo34
                                go_wp2_with (first | ((with_reducible refine gate_dst (N := 59) rfl ?_); (try (refine gate_guard (by rfl) ?_; dsimp only)); refine Kd.R_lit (Kd.int .u8) _ 5 ?hg (N := 59) ?hd (xs := ([] : List Int)) (inner := []) (ok := fun _ => True) (okp := fun _ => True) ?hr ?hp (fun _ hk => hk) trivial (Below.refl _ _) (Nat.le_refl _) (by simp) ?_; (case hd => rfl); (case hg => rfl); (case hr => first | (go_simp; done) | (go_simp; rfl)); (case hp => exact (Reps.none _ _)); intro v110 w35 ho36 hb hg_ hnew_; clear hg_ hnew_; (first | rw [← Ny109.out] at ho36 | (simp only [Int.reduceToNat] at ho36; rw [← Ny109.out] at ho36)); have n0_ := Aside0.mk (Kd.R_elder' (by (with_reducible repeat (first | apply Kd.R_alloc | apply Kd.R_drewN | apply Kd.R_drew)); exact HO_5.out) (Kd.R_base ho36) hb); have n1_ := Aside0.mk (Kd.R_elder' (by (with_reducible repeat (first | apply Kd.R_alloc | apply Kd.R_drewN | apply Kd.R_drew)); exact HO_6.out) (Kd.R_base ho36) hb); have n2_ := Aside0.mk (Kd.R_lower (Kd.R_new' (Kd.R_new' ho36 (Kd.R_lt (by (with_reducible repeat (first | apply Kd.R_alloc | apply Kd.R_drewN | apply Kd.R_drew)); exact HO_5.out))) (Kd.R_lt (by (with_reducible repeat (first | apply Kd.R_alloc | apply Kd.R_drewN | apply Kd.R_drew)); exact HO_6.out))) (below_size (by repeat (first | (with_reducible first | exact HB.out | apply below_alloc | apply pw_below_drewN | apply below_drew1) | exact HB.out)))); have n3_ := Aside0.mk (below_step (by repeat (first | (with_reducible first | exact HB.out | apply below_alloc | apply pw_below_drewN | apply below_drew1) | exact HB.out)) hb); clear HO_5; clear HO_6; clear HB; have HO_5 := n0_; have HO_6 := n1_; have HO111 := n2_; have HB := n3_; clear n0_ n1_ n2_ n3_; clear hb ho36) | ((with_reducible refine gate_builtin (b := .append) (xs := #[.tmp 59, .tmp 60]) rfl ?_); (try (refine gate_guard (by rfl) ?_; dsimp only)); at_builtin; refine Kd.R_append_rows (Kd.int .u8) (w0 := w) w.heap.size rfl (.tmp 59) (.tmp 60) 22 5 (.int .u8 0) 1 rfl Try.underlying22 info5 rfl (by decide) (by omega) v110 y109 t101 _ _ _ (fun k_ => some k_ ≠ (.slice Ao34 t101.length co34 : Value).ownBlock ∧ some k_ ≠ (v105 : Value).ownBlock) (fun _ => False) rfl rfl ?aO ?aR (fun _ _ h => h) (fun _ h => h.elim) ?aF ?aB ?aS ?aL ?_; (case aR => repeat (first | exact (Kd.R_reads' HO_5.out).2.2 | (with_reducible refine Kd.C_alloc ?_ _) | (with_reducible refine Kd.C_drewN ?_ _) | (with_reducible refine Kd.C_drew ?_))); (case aB => exact (by repeat (first | (with_reducible first | exact HB.out | apply below_alloc | apply pw_below_drewN | apply below_drew1) | exact HB.out))); (case aF => exact (fun k_ hk => ⟨Kd.fresh' (Kd.R_lt (by (with_reducible repeat (first | apply Kd.R_alloc | apply Kd.R_drewN | apply Kd.R_drew)); exact HO_5.out)) k_ hk, Kd.fresh' (Kd.R_lt (by (with_reducible repeat (first | apply Kd.R_alloc | apply Kd.R_drewN | apply Kd.R_drew)); exact HO_6.out)) k_ hk⟩)); (case aO => exact (by (with_reducible repeat (first | apply Kd.R_alloc | apply Kd.R_drewN | apply Kd.R_drew)); exact Kd.R_mono HO111.out (fun _ hk => ⟨hk.1.2, hk.2⟩))); (case aS => exact (below_size (by repeat (first | (with_reducible first | exact HB.out | apply below_alloc | apply pw_below_drewN | apply below_drew1) | exact HB.out)))); (case aL => have := LMc24.out; omega); intro v113 w37 ho hb hg hat; rw [← Ny112.out] at ho; have n0_ := Aside0.mk (Kd.R_after (ok := (fun k_ => some k_ ≠ (v105 : Value).ownBlock)) (by (with_reducible repeat (first | apply Kd.R_alloc | apply Kd.R_drewN | apply Kd.R_drew)); exact HO_5.out) hg hat); have n1_ := Aside0.mk (Kd.R_after (ok := (fun k_ => some k_ ≠ (.slice Ao34 t101.length co34 : Value).ownBlock)) (by (with_reducible repeat (first | apply Kd.R_alloc | apply Kd.R_drewN | apply Kd.R_drew)); exact HO_6.out) hg hat); have n2_ := Aside0.mk (hb); have n3_ := Aside0.mk (ho); clear HO_5; clear HO_6; clear HB; clear HO111; have HO_5 := n0_; have HO_6 := n1_; have HB := n2_; have HO114 := n3_; clear n0_ n1_ n2_ n3_; clear ho hb hg hat) | ((with_reducible refine gate_builtin (b := .append) (xs := #[.tmp 61, .tmp 62]) rfl ?_); (try (refine gate_guard (by rfl) ?_; dsimp only)); at_builtin; refine Kd.R_append (Kd.int .u8) (w0 := w) w.heap.size rfl (.tmp 61) (.tmp 62) 22 5 (.int .u8 0) 1 rfl Try.underlying22 info5 rfl (by decide) (by omega) v113 y112 255 [.int .u8 255] (fun k_ => some k_ ≠ (.slice Ao34 t101.length co34 : Value).ownBlock ∧ some k_ ≠ (v105 : Value).ownBlock) (fun _ => False) rfl rfl ?aP (fun _ hk => hk.elim) ?aF ?aO ?aB ?aS ?aL ?_; (case aP => exact rfl); (case aB => exact (by repeat (first | (with_reducible first | exact HB.out | apply below_alloc | apply pw_below_drewN | apply below_drew1) | exact HB.out))); (case aF => exact (fun k_ hk => ⟨Kd.fresh' (Kd.R_lt (by (with_reducible repeat (first | apply Kd.R_alloc | apply Kd.R_drewN | apply Kd.R_drew)); exact HO_5.out)) k_ hk, Kd.fresh' (Kd.R_lt (by (with_reducible repeat (first | apply Kd.R_alloc | apply Kd.R_drewN | apply Kd.R_drew)); exact HO_6.out)) k_ hk⟩)); (case aO => exact (by (with_reducible repeat (first | apply Kd.R_alloc | apply Kd.R_drewN | apply Kd.R_drew)); exact HO114.out)); (case aS => exact (below_size (by repeat (first | (with_reducible first | exact HB.out | apply below_alloc | apply pw_below_drewN | apply below_drew1) | exact HB.out)))); (case aL => have := LMc25.out; omega); intro v116 w38 ho hb hg hat; rw [← Ny115.out] at ho; have n0_ := Aside0.mk (Kd.R_after (ok := (fun k_ => some k_ ≠ (v105 : Value).ownBlock)) (by (with_reducible repeat (first | apply Kd.R_alloc | apply Kd.R_drewN | apply Kd.R_drew)); exact HO_5.out) hg hat); have n1_ := Aside0.mk (Kd.R_after (ok := (fun k_ => some k_ ≠ (.slice Ao34 t101.length co34 : Value).ownBlock)) (by (with_reducible repeat (first | apply Kd.R_alloc | apply Kd.R_drewN | apply Kd.R_drew)); exact HO_6.out) hg hat); have n2_ := Aside0.mk (hb); have n3_ := Aside0.mk (ho); clear HO_5; clear HO_6; clear HB; clear HO114; have HO_5 := n0_; have HO_6 := n1_; have HB := n2_; have HO117 := n3_; clear n0_ n1_ n2_ n3_; clear ho hb hg hat; obtain ⟨Ao39, co39, eo39⟩ := Kd.R_slice HO117.out; subst eo39) | ((with_reducible refine gate_callee (f := 8) rfl ?_); refine goesL_ (some 64) rfl rfl Try.func8 (by kernel_rfl) rfl #[.slice Ao39 y115.length co39] rfl (by (try simp only [List.map_toArray, List.map_cons, List.map_nil]); first | done | rfl | (simp only [List.length_drop, List.length_take]; rfl)) ?_; (with_reducible refine (bytes_ReadNum.calls _ _ y115 t118 t119 t120 _ ?side1 ?side2 A26.out).mono ?_); (case side1 => repeat (first | exact (Kd.R_reads' HO117.out).2.2 | (with_reducible refine Kd.C_alloc ?_ _) | (with_reducible refine Kd.C_drewN ?_ _) | (with_reducible refine Kd.C_drew ?_))); (case side2 => exact (Kd.R_reads' HO117.out).2.1); rintro e w40 ⟨rfl, hb⟩; refine ⟨_, rfl, ?_⟩; have n0_ := Aside0.mk (Kd.R_below (by (with_reducible repeat (first | apply Kd.R_alloc | apply Kd.R_drewN | apply Kd.R_drew)); exact HO_5.out) hb); have n1_ := Aside0.mk (Kd.R_below (by (with_reducible repeat (first | apply Kd.R_alloc | apply Kd.R_drewN | apply Kd.R_drew)); exact HO_6.out) hb); have n2_ := Aside0.mk (Kd.R_below (by (with_reducible repeat (first | apply Kd.R_alloc | apply Kd.R_drewN | apply Kd.R_drew)); exact HO117.out) hb); have n3_ := Aside0.mk (below_step (by repeat (first | (with_reducible first | exact HB.out | apply below_alloc | apply pw_below_drewN | apply below_drew1) | exact HB.out)) hb); clear HO_5; clear HO_6; clear HO117; clear HB; have HO_5 := n0_; have HO_6 := n1_; have HO117 := n2_; have HB := n3_; clear n0_ n1_ n2_ n3_; (try clear hb); (try clear hb2); (try clear hk); (try clear hi); obtain ⟨Ao41, co41, eo41⟩ := Kd.R_slice HO_6.out; subst eo41) | (go_at_call 14; (with_reducible refine (topiaristkeep_Bytes.calls _ _ t101 _ _ t104 t121 _ ?side1 ?side2 ?side3 ?side4 A30.out).mono ?_); (case side1 => repeat (first | exact (Kd.R_reads' HO_5.out).2.2 | (with_reducible refine Kd.C_alloc ?_ _) | (with_reducible refine Kd.C_drewN ?_ _) | (with_reducible refine Kd.C_drew ?_))); (case side2 => exact (Kd.R_reads' HO_5.out).2.1); (case side3 => repeat (first | exact (Kd.R_reads' HO_6.out).2.2 | (with_reducible refine Kd.C_alloc ?_ _) | (with_reducible refine Kd.C_drewN ?_ _) | (with_reducible refine Kd.C_drew ?_))); (case side4 => exact (Kd.R_reads' HO_6.out).2.1); rintro e w' ⟨rfl, ⟨nd, rfl⟩⟩) | (go_at_call 23; (with_reducible refine (topiaristlaw20_held.calls a1 t122 _ A31.out).mono ?_); rintro e w42 ⟨rfl, hb⟩; have n0_ := Aside0.mk (Kd.R_below (by (with_reducible repeat (first | apply Kd.R_alloc | apply Kd.R_drewN | apply Kd.R_drew)); exact HO_5.out) hb); have n1_ := Aside0.mk (Kd.R_below (by (with_reducible repeat (first | apply Kd.R_alloc | apply Kd.R_drewN | apply Kd.R_drew)); exact HO_6.out) hb); have n2_ := Aside0.mk (Kd.R_below (by (with_reducible repeat (first | apply Kd.R_alloc | apply Kd.R_drewN | apply Kd.R_drew)); exact HO117.out) hb); have n3_ := Aside0.mk (below_step (by repeat (first | (with_reducible first | exact HB.out | apply below_alloc | apply pw_below_drewN | apply below_drew1) | exact HB.out)) hb); clear HO_5; clear HO_6; clear HO117; clear HB; have HO_5 := n0_; have HO_6 := n1_; have HO117 := n2_; have HB := n3_; clear n0_ n1_ n2_ n3_; (try clear hb); (try clear hb2); (try clear hk); (try clear hi)) | (go_at_call 7; (with_reducible refine (topiaristlaw20_wakes.calls k3  t123 _ A33.out).mono ?_); rintro e w43 ⟨rfl, hb⟩; have n0_ := Aside0.mk (Kd.R_below (by (with_reducible repeat (first | apply Kd.R_alloc | apply Kd.R_drewN | apply Kd.R_drew)); exact HO_5.out) hb); have n1_ := Aside0.mk (Kd.R_below (by (with_reducible repeat (first | apply Kd.R_alloc | apply Kd.R_drewN | apply Kd.R_drew)); exact HO_6.out) hb); have n2_ := Aside0.mk (Kd.R_below (by (with_reducible repeat (first | apply Kd.R_alloc | apply Kd.R_drewN | apply Kd.R_drew)); exact HO117.out) hb); have n3_ := Aside0.mk (below_step (by repeat (first | (with_reducible first | exact HB.out | apply below_alloc | apply pw_below_drewN | apply below_drew1) | exact HB.out)) hb); clear HO_5; clear HO_6; clear HO117; clear HB; have HO_5 := n0_; have HO_6 := n1_; have HO117 := n2_; have HB := n3_; clear n0_ n1_ n2_ n3_; (try clear hb); (try clear hb2); (try clear hk); (try clear hi)))
                                go_ret
                                exact ⟨by first | rfl | (simp [errW_none, errW_some] <;> rfl) | (simp [*, errW_none, errW_some] <;> rfl), by repeat (first | (with_reducible first | exact HB.out | apply below_alloc | apply pw_below_drewN | apply below_drew1) | exact HB.out)⟩
                              · rw [if_neg c32] at H
                                have c32b0 : (t121 == (t107 == t122)) = false := by simpa using c32
                                (try (have c32b1 : decide (t121 = (t107 == t122)) = false := by simpa using c32))
                                (try (have c32b2 : (t121 == (t107 == t122)) = false := by simpa using c32))
                                (try (have c32b3 : ¬ (t121 = (t107 == t122)) := by simpa using c32))
                                clear c32
                                exact absurd ((Option.some.inj H).trans hrt.out) Bool.false_ne_true
                            · rw [if_neg c29] at H
                              have c29b0 : (t119 == x8_1) = false := beq_eq_false_iff_ne.mpr c29
                              have c29b1 : (t119 != x8_1) = true := bne_iff_ne.mpr c29
                              exact absurd ((Option.some.inj H).trans hrt.out) Bool.false_ne_true
                          · rw [if_neg c28] at H
                            have c28b0 : (t118 == t107) = false := beq_eq_false_iff_ne.mpr c28
                            have c28b1 : (t118 != t107) = true := bne_iff_ne.mpr c28
                            exact absurd ((Option.some.inj H).trans hrt.out) Bool.false_ne_true
                        · rw [if_neg c27] at H
                          have c27b0 : (t120 == 0) = false := beq_eq_false_iff_ne.mpr c27
                          have c27b1 : (t120 != 0) = true := bne_iff_ne.mpr c27
                          exact absurd ((Option.some.inj H).trans hrt.out) Bool.false_ne_true
                      · rw [if_neg c25] at H
                        exact absurd H (by simp)
                    · rw [if_neg c24] at H
                      exact absurd H (by simp)

/-- THE ONE PURE STATEMENT of topiaristlaw20_BytesNums: yours. -/
def topiaristlaw20_BytesNums.Pure : Prop := ∀ (a0 : Int) (a1 : Int), (Lit.int .i64 a0).wf = true → (Lit.int .i64 a1).wf = true → ∃ k, topiaristlaw20_BytesNums.f k a0 a1 = some true
theorem topiaristlaw20_BytesNums.walk (P : topiaristlaw20_BytesNums.Pure) (a0 : Int) (a1 : Int) (w : World) (w0 : (Lit.int .i64 a0).wf = true) (w1 : (Lit.int .i64 a1).wf = true) :
    Calls Try.prog 5 #[.int .i64 a0, .int .i64 a1] w fun e w' => e = .returned (.bool true) ∧ Below w.heap.size w w' := by
  obtain ⟨k, h⟩ := P a0 a1 w0 w1
  refine (topiaristlaw20_BytesNums.calls k a0 a1 true w h ⟨rfl⟩).mono ?_
  rintro e w' ⟨rfl, hd⟩
  exact ⟨rfl, hd⟩

end Go.Proofs.Ytncgbkmhigdflaa.P
