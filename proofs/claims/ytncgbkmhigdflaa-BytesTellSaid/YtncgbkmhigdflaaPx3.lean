-- Written by this session's own program wip/gen.py; Lean checks it.
import Derived.Test.YtncgbkmhigdflaaPx0
import Derived.Test.YtncgbkmhigdflaaPx7
import Derived.Test.YtncgbkmhigdflaaPx8
import Derived.Test.YtncgbkmhigdflaaPx9
import Derived.Test.YtncgbkmhigdflaaPx10
import Derived.Test.YtncgbkmhigdflaaPx11
import Derived.Test.YtncgbkmhigdflaaPx12
import Derived.Test.YtncgbkmhigdflaaPx13
import Derived.Test.YtncgbkmhigdflaaPx14
import Derived.Test.YtncgbkmhigdflaaPx15
import Derived.Test.YtncgbkmhigdflaaPx16
import Derived.Test.YtncgbkmhigdflaaPx17
import Derived.Test.YtncgbkmhigdflaaPx18
import Derived.Test.YtncgbkmhigdflaaPx19
import Derived.Test.YtncgbkmhigdflaaPx20
import Derived.Test.YtncgbkmhigdflaaPx21
import Derived.Test.YtncgbkmhigdflaaPx22
namespace Go.Proofs.Ytncgbkmhigdflaa.P
open Go.RowKit Go.Proofs.YtncgbkmhigdflaaW.PrintWords Go.Proofs.YtncgbkmhigdflaaW.PrintLast Go.Proofs.YtncgbkmhigdflaaW.PrintMore
attribute [local go_sem] max2_int min2_int max_two min_two max_three min_three max_four min_four   -- for this text's walks alone
set_option linter.unusedVariables false
set_option linter.unusedSimpArgs false

/-! ### topiaristlaw20_BytesTell: function 3 -/
mutual
def topiaristlaw20_BytesTell.j0 : Nat → List Int → Int → ByteArray → Bool → Option (Bool)
  | 0, _, _, _, _ => none
  | k + 1, x0, x1, x2, x27 => if x27 = true then ((topiaristlaw20_wakes.f k).bind fun t101 => (some t101)) else ((some (([] : List Int) : List Int)).bind fun y102 => (if y102.length + x0.length < 140737488355328 then ((some (y102 ++ x0 : List Int)).bind fun y105 => ((bytes_ReadNum.f y105).bind fun bt108 => ((topiaristref20_ReadNum.f k x0).bind fun bt111 => ((bytes_ReadText.f y105).bind fun bt116 => ((topiaristref20_ReadText.f k x0).bind fun bt119 => ((bytes_Open.f k y105).bind fun bt124 => ((topiaristref20_Open.f k x0).bind fun bt128 => ((bytes_Num.f k y105 x1).bind fun t132 => ((topiaristref20_Num.f k x0 x1).bind fun t135 => ((topiaristkeep_Bytes.f t132 t135).bind fun t138 => (if t138 = true then ((bytes_Text.f k y105 x2).bind fun t139 => ((topiaristref20_Text.f k x0 x2).bind fun t142 => ((topiaristkeep_Bytes.f t139 t142).bind fun t145 => (if t145 = true then (if bt108.1 = bt111.1 then (if bt108.2.1 = bt111.2.1 then (if ((bt108.2.2 == 0) == bt111.2.2.2) = true then (if bt111.2.2.2 = true then (if bt116.1.toList = bt119.2.2.1.toList then (if bt116.2.1 = bt119.2.1 then (if ((bt116.2.2 == 0) == bt119.2.2.2) = true then (if bt119.2.2.2 = true then ((bytes_Sum.f k y105).bind fun t146 => ((topiaristref20_Sum.f k x0).bind fun t147 => (if t146 = t147 then ((bytes_Seal.f k y105).bind fun t148 => ((topiaristref20_Seal.f k x0).bind fun t151 => ((topiaristkeep_Bytes.f t148 t151).bind fun t154 => (if t154 = true then ((topiaristkeep_Bytes.f bt124.1 bt128.1).bind fun t155 => (if t155 = true then (if bt124.2 = bt128.2 then ((topiaristkeep_Bytes.f y105 x0).bind fun t156 => (if t156 = true then ((topiaristlaw20_wakes.f k).bind fun t157 => (topiaristlaw20_BytesTell.j1 k t157)) else (topiaristlaw20_BytesTell.j1 k false))) else (topiaristlaw20_BytesTell.j1 k false)) else (topiaristlaw20_BytesTell.j1 k false))) else (topiaristlaw20_BytesTell.j1 k false))))) else (topiaristlaw20_BytesTell.j1 k false)))) else (if bt116.2.2 = 16 then ((bytes_Sum.f k y105).bind fun t158 => ((topiaristref20_Sum.f k x0).bind fun t159 => (if t158 = t159 then ((bytes_Seal.f k y105).bind fun t160 => ((topiaristref20_Seal.f k x0).bind fun t163 => ((topiaristkeep_Bytes.f t160 t163).bind fun t166 => (if t166 = true then ((topiaristkeep_Bytes.f bt124.1 bt128.1).bind fun t167 => (if t167 = true then (if bt124.2 = bt128.2 then ((topiaristkeep_Bytes.f y105 x0).bind fun t168 => (if t168 = true then ((topiaristlaw20_wakes.f k).bind fun t169 => (topiaristlaw20_BytesTell.j1 k t169)) else (topiaristlaw20_BytesTell.j1 k false))) else (topiaristlaw20_BytesTell.j1 k false)) else (topiaristlaw20_BytesTell.j1 k false))) else (topiaristlaw20_BytesTell.j1 k false))))) else (topiaristlaw20_BytesTell.j1 k false)))) else (topiaristlaw20_BytesTell.j1 k false))) else (topiaristlaw20_BytesTell.j1 k false)) else (topiaristlaw20_BytesTell.j1 k false)) else (topiaristlaw20_BytesTell.j1 k false)) else (if bt108.2.2 = 16 then (if bt116.1.toList = bt119.2.2.1.toList then (if bt116.2.1 = bt119.2.1 then (if ((bt116.2.2 == 0) == bt119.2.2.2) = true then (if bt119.2.2.2 = true then ((bytes_Sum.f k y105).bind fun t170 => ((topiaristref20_Sum.f k x0).bind fun t171 => (if t170 = t171 then ((bytes_Seal.f k y105).bind fun t172 => ((topiaristref20_Seal.f k x0).bind fun t175 => ((topiaristkeep_Bytes.f t172 t175).bind fun t178 => (if t178 = true then ((topiaristkeep_Bytes.f bt124.1 bt128.1).bind fun t179 => (if t179 = true then (if bt124.2 = bt128.2 then ((topiaristkeep_Bytes.f y105 x0).bind fun t180 => (if t180 = true then ((topiaristlaw20_wakes.f k).bind fun t181 => (topiaristlaw20_BytesTell.j1 k t181)) else (topiaristlaw20_BytesTell.j1 k false))) else (topiaristlaw20_BytesTell.j1 k false)) else (topiaristlaw20_BytesTell.j1 k false))) else (topiaristlaw20_BytesTell.j1 k false))))) else (topiaristlaw20_BytesTell.j1 k false)))) else (if bt116.2.2 = 16 then ((bytes_Sum.f k y105).bind fun t182 => ((topiaristref20_Sum.f k x0).bind fun t183 => (if t182 = t183 then ((bytes_Seal.f k y105).bind fun t184 => ((topiaristref20_Seal.f k x0).bind fun t187 => ((topiaristkeep_Bytes.f t184 t187).bind fun t190 => (if t190 = true then ((topiaristkeep_Bytes.f bt124.1 bt128.1).bind fun t191 => (if t191 = true then (if bt124.2 = bt128.2 then ((topiaristkeep_Bytes.f y105 x0).bind fun t192 => (if t192 = true then ((topiaristlaw20_wakes.f k).bind fun t193 => (topiaristlaw20_BytesTell.j1 k t193)) else (topiaristlaw20_BytesTell.j1 k false))) else (topiaristlaw20_BytesTell.j1 k false)) else (topiaristlaw20_BytesTell.j1 k false))) else (topiaristlaw20_BytesTell.j1 k false))))) else (topiaristlaw20_BytesTell.j1 k false)))) else (topiaristlaw20_BytesTell.j1 k false))) else (topiaristlaw20_BytesTell.j1 k false)) else (topiaristlaw20_BytesTell.j1 k false)) else (topiaristlaw20_BytesTell.j1 k false)) else (topiaristlaw20_BytesTell.j1 k false))) else (topiaristlaw20_BytesTell.j1 k false)) else (topiaristlaw20_BytesTell.j1 k false)) else (topiaristlaw20_BytesTell.j1 k false)) else (topiaristlaw20_BytesTell.j1 k false))))) else (topiaristlaw20_BytesTell.j1 k false)))))))))))) else (none)))
def topiaristlaw20_BytesTell.j1 : Nat → Bool → Option (Bool)
  | 0, _ => none
  | k + 1, x6 => some x6
end
def topiaristlaw20_BytesTell.f (k : Nat) (l0 : List Int) (a1 : Int) (a2 : ByteArray) : Option (Bool) := if (l0.length : Int) > 2000 then (topiaristlaw20_BytesTell.j0 k l0 a1 a2 true) else (topiaristlaw20_BytesTell.j0 k l0 a1 a2 (decide ((a2.size : Int) > 2000)))
theorem topiaristlaw20_BytesTell.mono_l : ∀ k, (∀ y0 y1 y2 y3, LeO (topiaristlaw20_BytesTell.j0 k y0 y1 y2 y3) (topiaristlaw20_BytesTell.j0 (k + 1) y0 y1 y2 y3)) ∧ (∀ y0, LeO (topiaristlaw20_BytesTell.j1 k y0) (topiaristlaw20_BytesTell.j1 (k + 1) y0))
  | 0 => ⟨fun _ _ _ _ r h => by simp [topiaristlaw20_BytesTell.j0] at h, fun _ r h => by simp [topiaristlaw20_BytesTell.j1] at h⟩
  | k + 1 => by
    obtain ⟨ih0, ih1⟩ := topiaristlaw20_BytesTell.mono_l k
    refine ⟨?_, ?_⟩
    · intro y0 y1 y2 y3
      unfold topiaristlaw20_BytesTell.j0
      repeat' first
      | (with_reducible exact ih0 _ _ _ _)
      | (with_reducible exact ih1 _)
      | (with_reducible exact bytes_Num.mono _ _ _)
      | (with_reducible exact bytes_Open.mono _ _)
      | (with_reducible exact bytes_Seal.mono _ _)
      | (with_reducible exact bytes_Sum.mono _ _)
      | (with_reducible exact bytes_Text.mono _ _ _)
      | (with_reducible exact topiaristlaw20_wakes.mono _)
      | (with_reducible exact topiaristref20_Num.mono _ _ _)
      | (with_reducible exact topiaristref20_Open.mono _ _)
      | (with_reducible exact topiaristref20_ReadNum.mono _ _)
      | (with_reducible exact topiaristref20_ReadText.mono _ _)
      | (with_reducible exact topiaristref20_Seal.mono _ _)
      | (with_reducible exact topiaristref20_Sum.mono _ _)
      | (with_reducible exact topiaristref20_Text.mono _ _ _)
      | (with_reducible exact LeO.refl _)
      | (with_reducible exact LeO.none _)
      | (with_reducible refine LeO.ite ?_ ?_)
      | (with_reducible refine LeO.bind ?_ (fun _ => ?_))
      | exact ih0 _ _ _ _
      | exact ih1 _
      | exact bytes_Num.mono _ _ _
      | exact bytes_Open.mono _ _
      | exact bytes_Seal.mono _ _
      | exact bytes_Sum.mono _ _
      | exact bytes_Text.mono _ _ _
      | exact topiaristlaw20_wakes.mono _
      | exact topiaristref20_Num.mono _ _ _
      | exact topiaristref20_Open.mono _ _
      | exact topiaristref20_ReadNum.mono _ _
      | exact topiaristref20_ReadText.mono _ _
      | exact topiaristref20_Seal.mono _ _
      | exact topiaristref20_Sum.mono _ _
      | exact topiaristref20_Text.mono _ _ _
      | exact LeO.none _
      | refine LeO.ite ?_ ?_
      | refine LeO.bind ?_ (fun _ => ?_)
    · intro y0
      unfold topiaristlaw20_BytesTell.j1
      repeat' first
      | (with_reducible exact ih0 _ _ _ _)
      | (with_reducible exact ih1 _)
      | (with_reducible exact bytes_Num.mono _ _ _)
      | (with_reducible exact bytes_Open.mono _ _)
      | (with_reducible exact bytes_Seal.mono _ _)
      | (with_reducible exact bytes_Sum.mono _ _)
      | (with_reducible exact bytes_Text.mono _ _ _)
      | (with_reducible exact topiaristlaw20_wakes.mono _)
      | (with_reducible exact topiaristref20_Num.mono _ _ _)
      | (with_reducible exact topiaristref20_Open.mono _ _)
      | (with_reducible exact topiaristref20_ReadNum.mono _ _)
      | (with_reducible exact topiaristref20_ReadText.mono _ _)
      | (with_reducible exact topiaristref20_Seal.mono _ _)
      | (with_reducible exact topiaristref20_Sum.mono _ _)
      | (with_reducible exact topiaristref20_Text.mono _ _ _)
      | (with_reducible exact LeO.refl _)
      | (with_reducible exact LeO.none _)
      | (with_reducible refine LeO.ite ?_ ?_)
      | (with_reducible refine LeO.bind ?_ (fun _ => ?_))
      | exact ih0 _ _ _ _
      | exact ih1 _
      | exact bytes_Num.mono _ _ _
      | exact bytes_Open.mono _ _
      | exact bytes_Seal.mono _ _
      | exact bytes_Sum.mono _ _
      | exact bytes_Text.mono _ _ _
      | exact topiaristlaw20_wakes.mono _
      | exact topiaristref20_Num.mono _ _ _
      | exact topiaristref20_Open.mono _ _
      | exact topiaristref20_ReadNum.mono _ _
      | exact topiaristref20_ReadText.mono _ _
      | exact topiaristref20_Seal.mono _ _
      | exact topiaristref20_Sum.mono _ _
      | exact topiaristref20_Text.mono _ _ _
      | exact LeO.none _
      | refine LeO.ite ?_ ?_
      | refine LeO.bind ?_ (fun _ => ?_)
theorem topiaristlaw20_BytesTell.mono : ∀ a0 a1 a2 k, LeO (topiaristlaw20_BytesTell.f k a0 a1 a2) (topiaristlaw20_BytesTell.f (k + 1) a0 a1 a2) := by
  intro a0 a1 a2 k
  obtain ⟨ih0, ih1⟩ := topiaristlaw20_BytesTell.mono_l k
  unfold topiaristlaw20_BytesTell.f
  repeat' first
      | (with_reducible exact ih0 _ _ _ _)
      | (with_reducible exact ih1 _)
      | (with_reducible exact bytes_Num.mono _ _ _)
      | (with_reducible exact bytes_Open.mono _ _)
      | (with_reducible exact bytes_Seal.mono _ _)
      | (with_reducible exact bytes_Sum.mono _ _)
      | (with_reducible exact bytes_Text.mono _ _ _)
      | (with_reducible exact topiaristlaw20_wakes.mono _)
      | (with_reducible exact topiaristref20_Num.mono _ _ _)
      | (with_reducible exact topiaristref20_Open.mono _ _)
      | (with_reducible exact topiaristref20_ReadNum.mono _ _)
      | (with_reducible exact topiaristref20_ReadText.mono _ _)
      | (with_reducible exact topiaristref20_Seal.mono _ _)
      | (with_reducible exact topiaristref20_Sum.mono _ _)
      | (with_reducible exact topiaristref20_Text.mono _ _ _)
      | (with_reducible exact LeO.refl _)
      | (with_reducible exact LeO.none _)
      | (with_reducible refine LeO.ite ?_ ?_)
      | (with_reducible refine LeO.bind ?_ (fun _ => ?_))
      | exact ih0 _ _ _ _
      | exact ih1 _
      | exact bytes_Num.mono _ _ _
      | exact bytes_Open.mono _ _
      | exact bytes_Seal.mono _ _
      | exact bytes_Sum.mono _ _
      | exact bytes_Text.mono _ _ _
      | exact topiaristlaw20_wakes.mono _
      | exact topiaristref20_Num.mono _ _ _
      | exact topiaristref20_Open.mono _ _
      | exact topiaristref20_ReadNum.mono _ _
      | exact topiaristref20_ReadText.mono _ _
      | exact topiaristref20_Seal.mono _ _
      | exact topiaristref20_Sum.mono _ _
      | exact topiaristref20_Text.mono _ _ _
      | exact LeO.none _
      | refine LeO.ite ?_ ?_
      | refine LeO.bind ?_ (fun _ => ?_)
theorem topiaristlaw20_BytesTell.j1_false (k : Nat)  (r : Bool) (h : topiaristlaw20_BytesTell.j1 k false = some r) : r = false := by cases k <;> simp [topiaristlaw20_BytesTell.j1] at h; first | exact h | exact h.symm
set_option maxHeartbeats 8000000 in
set_option maxRecDepth 100000 in
theorem topiaristlaw20_BytesTell.calls (k : Nat) (A0 : Option Addr) (c0 : Nat) (l0 : List Int) (a1 : Int) (a2 : ByteArray) (r : Bool) (w : World) (hr0 : Kd.C (Kd.int .u8) w A0 l0.length l0) (hc0 : l0.length ≤ c0) (h : topiaristlaw20_BytesTell.f k l0 a1 a2 = some r) (hrt : Aside0 (r = true)) :
    Calls Try.prog 3 #[.slice A0 l0.length c0, .int .i64 a1, .string a2] w fun e w' => e = .returned (.bool r) ∧ Below w.heap.size w w' := by
  have hu28 := Try.underlying28
  have HR0 := Aside0.mk hr0
  have HC0 := Aside0.mk hc0
  clear hr0 hc0
  have HB := Aside0.mk (Below.refl w.heap.size w)
  have H : (if (l0.length : Int) > 2000 then (topiaristlaw20_BytesTell.j0 k l0 a1 a2 true) else (topiaristlaw20_BytesTell.j0 k l0 a1 a2 (decide ((a2.size : Int) > 2000)))) = some r := h
  clear h
  have HC4 := Aside0.mk H
  clear H
  go_enter Try.func3, Try.ntmps3
  go_upto_region 1 with (fail)
  go_cut [27] (fun v27 wc => ∃ (kq : Nat) (x27_3 : Bool), v27 = .bool x27_3 ∧ Aside0 (topiaristlaw20_BytesTell.j0 kq l0 a1 a2 x27_3 = some r) ∧ Aside0 (kq ≤ k) ∧ Aside0 (Below w.heap.size w wc))
  case first =>
    have H := HC4.out
    clear HC4
    by_cases c5 : (l0.length : Int) > 2000
    · rw [if_pos c5] at H
      have c5b0 : decide (2000 < (l0.length : Int)) = true := decide_eq_true c5
      have c5b1 : decide (2000 < l0.length) = true := decide_eq_true (by omega)
      clear c5
      (first | rw [c5b0] | (simp only [i64_w, i32_w]; rw [c5b0]) | skip)
      have H' := Aside0.mk H
      clear H
      go_wp2
      go_meet
      case rel => exact ⟨_, (true), (by first | rfl | (simp; done) | (simp [*]; done)), H', ⟨by first | omega | exact Nat.le_refl _⟩, ⟨by repeat (first | (with_reducible first | exact HB.out | apply below_alloc | apply pw_below_drewN | apply below_drew1) | exact HB.out)⟩⟩
    · rw [if_neg c5] at H
      have c5b0 : decide (2000 < (l0.length : Int)) = false := decide_eq_false c5
      have c5b1 : decide (2000 < l0.length) = false := decide_eq_false (by omega)
      clear c5
      (first | rw [c5b0] | (simp only [i64_w, i32_w]; rw [c5b0]) | skip)
      have H' := Aside0.mk H
      clear H
      go_wp2
      go_meet
      case rel => exact ⟨_, (decide ((a2.size : Int) > 2000)), (by first | rfl | (simp; done) | (simp [*]; done)), H', ⟨by first | omega | exact Nat.le_refl _⟩, ⟨by repeat (first | (with_reducible first | exact HB.out | apply below_alloc | apply pw_below_drewN | apply below_drew1) | exact HB.out)⟩⟩
  case rest =>
    clear HC4
    try clear p2
    try clear c3
    try clear c5
    try clear c5b0
    try clear c5b1
    obtain ⟨kq, x27_3, rfl, HA, HJ3, HB⟩ := hcut
    cases kq with
    | zero => exact absurd HA.out (by simp [topiaristlaw20_BytesTell.j0])
    | succ kj3 =>
      have H := HA.out
      clear HA
      simp only [topiaristlaw20_BytesTell.j0] at H
      by_cases c6 : x27_3 = true
      · subst c6
        have H1 : ((topiaristlaw20_wakes.f kj3).bind fun t101 => (some t101)) = some r := by rw [if_pos rfl] at H; exact H
        clear H
        have H := H1
        clear H1
        replace H := Option.bind_eq_some_iff.mp H
        obtain ⟨t101, A70, H⟩ := H
        replace H : (some t101) = some r := H
        have A7 := Aside0.mk A70
        clear A70
        obtain rfl := Option.some.inj H
        go_wp2_with (first | ((with_reducible refine gate_callee (f := 7) rfl ?_); refine goesL_ (some 28) rfl rfl Try.func7 (by kernel_rfl) rfl #[] rfl (by (try simp only [List.map_toArray, List.map_cons, List.map_nil]); first | done | rfl | (simp only [List.length_drop, List.length_take]; rfl)) ?_; (with_reducible refine (topiaristlaw20_wakes.calls kj3  t101 _ A7.out).mono ?_); rintro e w8 ⟨rfl, hb⟩; refine ⟨_, rfl, ?_⟩; have n0_ := Aside0.mk (below_step (by repeat (first | (with_reducible first | exact HB.out | apply below_alloc | apply pw_below_drewN | apply below_drew1) | exact HB.out)) hb); clear HB; have HB := n0_; clear n0_; (try clear hb); (try clear hb2); (try clear hk); (try clear hi)))
        go_ret
        exact ⟨by first | rfl | (simp [errW_none, errW_some] <;> rfl) | (simp [*, errW_none, errW_some] <;> rfl), by repeat (first | (with_reducible first | exact HB.out | apply below_alloc | apply pw_below_drewN | apply below_drew1) | exact HB.out)⟩
      · replace c6 := Bool.eq_false_iff.mpr c6
        subst c6
        have H1 : ((some (([] : List Int) : List Int)).bind fun y102 => (if y102.length + l0.length < 140737488355328 then ((some (y102 ++ l0 : List Int)).bind fun y105 => ((bytes_ReadNum.f y105).bind fun bt108 => ((topiaristref20_ReadNum.f kj3 l0).bind fun bt111 => ((bytes_ReadText.f y105).bind fun bt116 => ((topiaristref20_ReadText.f kj3 l0).bind fun bt119 => ((bytes_Open.f kj3 y105).bind fun bt124 => ((topiaristref20_Open.f kj3 l0).bind fun bt128 => ((bytes_Num.f kj3 y105 a1).bind fun t132 => ((topiaristref20_Num.f kj3 l0 a1).bind fun t135 => ((topiaristkeep_Bytes.f t132 t135).bind fun t138 => (if t138 = true then ((bytes_Text.f kj3 y105 a2).bind fun t139 => ((topiaristref20_Text.f kj3 l0 a2).bind fun t142 => ((topiaristkeep_Bytes.f t139 t142).bind fun t145 => (if t145 = true then (if bt108.1 = bt111.1 then (if bt108.2.1 = bt111.2.1 then (if ((bt108.2.2 == 0) == bt111.2.2.2) = true then (if bt111.2.2.2 = true then (if bt116.1.toList = bt119.2.2.1.toList then (if bt116.2.1 = bt119.2.1 then (if ((bt116.2.2 == 0) == bt119.2.2.2) = true then (if bt119.2.2.2 = true then ((bytes_Sum.f kj3 y105).bind fun t146 => ((topiaristref20_Sum.f kj3 l0).bind fun t147 => (if t146 = t147 then ((bytes_Seal.f kj3 y105).bind fun t148 => ((topiaristref20_Seal.f kj3 l0).bind fun t151 => ((topiaristkeep_Bytes.f t148 t151).bind fun t154 => (if t154 = true then ((topiaristkeep_Bytes.f bt124.1 bt128.1).bind fun t155 => (if t155 = true then (if bt124.2 = bt128.2 then ((topiaristkeep_Bytes.f y105 l0).bind fun t156 => (if t156 = true then ((topiaristlaw20_wakes.f kj3).bind fun t157 => (topiaristlaw20_BytesTell.j1 kj3 t157)) else (topiaristlaw20_BytesTell.j1 kj3 false))) else (topiaristlaw20_BytesTell.j1 kj3 false)) else (topiaristlaw20_BytesTell.j1 kj3 false))) else (topiaristlaw20_BytesTell.j1 kj3 false))))) else (topiaristlaw20_BytesTell.j1 kj3 false)))) else (if bt116.2.2 = 16 then ((bytes_Sum.f kj3 y105).bind fun t158 => ((topiaristref20_Sum.f kj3 l0).bind fun t159 => (if t158 = t159 then ((bytes_Seal.f kj3 y105).bind fun t160 => ((topiaristref20_Seal.f kj3 l0).bind fun t163 => ((topiaristkeep_Bytes.f t160 t163).bind fun t166 => (if t166 = true then ((topiaristkeep_Bytes.f bt124.1 bt128.1).bind fun t167 => (if t167 = true then (if bt124.2 = bt128.2 then ((topiaristkeep_Bytes.f y105 l0).bind fun t168 => (if t168 = true then ((topiaristlaw20_wakes.f kj3).bind fun t169 => (topiaristlaw20_BytesTell.j1 kj3 t169)) else (topiaristlaw20_BytesTell.j1 kj3 false))) else (topiaristlaw20_BytesTell.j1 kj3 false)) else (topiaristlaw20_BytesTell.j1 kj3 false))) else (topiaristlaw20_BytesTell.j1 kj3 false))))) else (topiaristlaw20_BytesTell.j1 kj3 false)))) else (topiaristlaw20_BytesTell.j1 kj3 false))) else (topiaristlaw20_BytesTell.j1 kj3 false)) else (topiaristlaw20_BytesTell.j1 kj3 false)) else (topiaristlaw20_BytesTell.j1 kj3 false)) else (if bt108.2.2 = 16 then (if bt116.1.toList = bt119.2.2.1.toList then (if bt116.2.1 = bt119.2.1 then (if ((bt116.2.2 == 0) == bt119.2.2.2) = true then (if bt119.2.2.2 = true then ((bytes_Sum.f kj3 y105).bind fun t170 => ((topiaristref20_Sum.f kj3 l0).bind fun t171 => (if t170 = t171 then ((bytes_Seal.f kj3 y105).bind fun t172 => ((topiaristref20_Seal.f kj3 l0).bind fun t175 => ((topiaristkeep_Bytes.f t172 t175).bind fun t178 => (if t178 = true then ((topiaristkeep_Bytes.f bt124.1 bt128.1).bind fun t179 => (if t179 = true then (if bt124.2 = bt128.2 then ((topiaristkeep_Bytes.f y105 l0).bind fun t180 => (if t180 = true then ((topiaristlaw20_wakes.f kj3).bind fun t181 => (topiaristlaw20_BytesTell.j1 kj3 t181)) else (topiaristlaw20_BytesTell.j1 kj3 false))) else (topiaristlaw20_BytesTell.j1 kj3 false)) else (topiaristlaw20_BytesTell.j1 kj3 false))) else (topiaristlaw20_BytesTell.j1 kj3 false))))) else (topiaristlaw20_BytesTell.j1 kj3 false)))) else (if bt116.2.2 = 16 then ((bytes_Sum.f kj3 y105).bind fun t182 => ((topiaristref20_Sum.f kj3 l0).bind fun t183 => (if t182 = t183 then ((bytes_Seal.f kj3 y105).bind fun t184 => ((topiaristref20_Seal.f kj3 l0).bind fun t187 => ((topiaristkeep_Bytes.f t184 t187).bind fun t190 => (if t190 = true then ((topiaristkeep_Bytes.f bt124.1 bt128.1).bind fun t191 => (if t191 = true then (if bt124.2 = bt128.2 then ((topiaristkeep_Bytes.f y105 l0).bind fun t192 => (if t192 = true then ((topiaristlaw20_wakes.f kj3).bind fun t193 => (topiaristlaw20_BytesTell.j1 kj3 t193)) else (topiaristlaw20_BytesTell.j1 kj3 false))) else (topiaristlaw20_BytesTell.j1 kj3 false)) else (topiaristlaw20_BytesTell.j1 kj3 false))) else (topiaristlaw20_BytesTell.j1 kj3 false))))) else (topiaristlaw20_BytesTell.j1 kj3 false)))) else (topiaristlaw20_BytesTell.j1 kj3 false))) else (topiaristlaw20_BytesTell.j1 kj3 false)) else (topiaristlaw20_BytesTell.j1 kj3 false)) else (topiaristlaw20_BytesTell.j1 kj3 false)) else (topiaristlaw20_BytesTell.j1 kj3 false))) else (topiaristlaw20_BytesTell.j1 kj3 false)) else (topiaristlaw20_BytesTell.j1 kj3 false)) else (topiaristlaw20_BytesTell.j1 kj3 false)) else (topiaristlaw20_BytesTell.j1 kj3 false))))) else (topiaristlaw20_BytesTell.j1 kj3 false)))))))))))) else (none))) = some r := by rw [if_neg (show ¬ (false = true) by decide)] at H; exact H
        clear H
        have H := H1
        clear H1
        obtain ⟨y102, hy102⟩ : ∃ y_ : List Int, y_ = (([] : List Int)) := ⟨_, rfl⟩
        replace H : (if y102.length + l0.length < 140737488355328 then ((some (y102 ++ l0 : List Int)).bind fun y105 => ((bytes_ReadNum.f y105).bind fun bt108 => ((topiaristref20_ReadNum.f kj3 l0).bind fun bt111 => ((bytes_ReadText.f y105).bind fun bt116 => ((topiaristref20_ReadText.f kj3 l0).bind fun bt119 => ((bytes_Open.f kj3 y105).bind fun bt124 => ((topiaristref20_Open.f kj3 l0).bind fun bt128 => ((bytes_Num.f kj3 y105 a1).bind fun t132 => ((topiaristref20_Num.f kj3 l0 a1).bind fun t135 => ((topiaristkeep_Bytes.f t132 t135).bind fun t138 => (if t138 = true then ((bytes_Text.f kj3 y105 a2).bind fun t139 => ((topiaristref20_Text.f kj3 l0 a2).bind fun t142 => ((topiaristkeep_Bytes.f t139 t142).bind fun t145 => (if t145 = true then (if bt108.1 = bt111.1 then (if bt108.2.1 = bt111.2.1 then (if ((bt108.2.2 == 0) == bt111.2.2.2) = true then (if bt111.2.2.2 = true then (if bt116.1.toList = bt119.2.2.1.toList then (if bt116.2.1 = bt119.2.1 then (if ((bt116.2.2 == 0) == bt119.2.2.2) = true then (if bt119.2.2.2 = true then ((bytes_Sum.f kj3 y105).bind fun t146 => ((topiaristref20_Sum.f kj3 l0).bind fun t147 => (if t146 = t147 then ((bytes_Seal.f kj3 y105).bind fun t148 => ((topiaristref20_Seal.f kj3 l0).bind fun t151 => ((topiaristkeep_Bytes.f t148 t151).bind fun t154 => (if t154 = true then ((topiaristkeep_Bytes.f bt124.1 bt128.1).bind fun t155 => (if t155 = true then (if bt124.2 = bt128.2 then ((topiaristkeep_Bytes.f y105 l0).bind fun t156 => (if t156 = true then ((topiaristlaw20_wakes.f kj3).bind fun t157 => (topiaristlaw20_BytesTell.j1 kj3 t157)) else (topiaristlaw20_BytesTell.j1 kj3 false))) else (topiaristlaw20_BytesTell.j1 kj3 false)) else (topiaristlaw20_BytesTell.j1 kj3 false))) else (topiaristlaw20_BytesTell.j1 kj3 false))))) else (topiaristlaw20_BytesTell.j1 kj3 false)))) else (if bt116.2.2 = 16 then ((bytes_Sum.f kj3 y105).bind fun t158 => ((topiaristref20_Sum.f kj3 l0).bind fun t159 => (if t158 = t159 then ((bytes_Seal.f kj3 y105).bind fun t160 => ((topiaristref20_Seal.f kj3 l0).bind fun t163 => ((topiaristkeep_Bytes.f t160 t163).bind fun t166 => (if t166 = true then ((topiaristkeep_Bytes.f bt124.1 bt128.1).bind fun t167 => (if t167 = true then (if bt124.2 = bt128.2 then ((topiaristkeep_Bytes.f y105 l0).bind fun t168 => (if t168 = true then ((topiaristlaw20_wakes.f kj3).bind fun t169 => (topiaristlaw20_BytesTell.j1 kj3 t169)) else (topiaristlaw20_BytesTell.j1 kj3 false))) else (topiaristlaw20_BytesTell.j1 kj3 false)) else (topiaristlaw20_BytesTell.j1 kj3 false))) else (topiaristlaw20_BytesTell.j1 kj3 false))))) else (topiaristlaw20_BytesTell.j1 kj3 false)))) else (topiaristlaw20_BytesTell.j1 kj3 false))) else (topiaristlaw20_BytesTell.j1 kj3 false)) else (topiaristlaw20_BytesTell.j1 kj3 false)) else (topiaristlaw20_BytesTell.j1 kj3 false)) else (if bt108.2.2 = 16 then (if bt116.1.toList = bt119.2.2.1.toList then (if bt116.2.1 = bt119.2.1 then (if ((bt116.2.2 == 0) == bt119.2.2.2) = true then (if bt119.2.2.2 = true then ((bytes_Sum.f kj3 y105).bind fun t170 => ((topiaristref20_Sum.f kj3 l0).bind fun t171 => (if t170 = t171 then ((bytes_Seal.f kj3 y105).bind fun t172 => ((topiaristref20_Seal.f kj3 l0).bind fun t175 => ((topiaristkeep_Bytes.f t172 t175).bind fun t178 => (if t178 = true then ((topiaristkeep_Bytes.f bt124.1 bt128.1).bind fun t179 => (if t179 = true then (if bt124.2 = bt128.2 then ((topiaristkeep_Bytes.f y105 l0).bind fun t180 => (if t180 = true then ((topiaristlaw20_wakes.f kj3).bind fun t181 => (topiaristlaw20_BytesTell.j1 kj3 t181)) else (topiaristlaw20_BytesTell.j1 kj3 false))) else (topiaristlaw20_BytesTell.j1 kj3 false)) else (topiaristlaw20_BytesTell.j1 kj3 false))) else (topiaristlaw20_BytesTell.j1 kj3 false))))) else (topiaristlaw20_BytesTell.j1 kj3 false)))) else (if bt116.2.2 = 16 then ((bytes_Sum.f kj3 y105).bind fun t182 => ((topiaristref20_Sum.f kj3 l0).bind fun t183 => (if t182 = t183 then ((bytes_Seal.f kj3 y105).bind fun t184 => ((topiaristref20_Seal.f kj3 l0).bind fun t187 => ((topiaristkeep_Bytes.f t184 t187).bind fun t190 => (if t190 = true then ((topiaristkeep_Bytes.f bt124.1 bt128.1).bind fun t191 => (if t191 = true then (if bt124.2 = bt128.2 then ((topiaristkeep_Bytes.f y105 l0).bind fun t192 => (if t192 = true then ((topiaristlaw20_wakes.f kj3).bind fun t193 => (topiaristlaw20_BytesTell.j1 kj3 t193)) else (topiaristlaw20_BytesTell.j1 kj3 false))) else (topiaristlaw20_BytesTell.j1 kj3 false)) else (topiaristlaw20_BytesTell.j1 kj3 false))) else (topiaristlaw20_BytesTell.j1 kj3 false))))) else (topiaristlaw20_BytesTell.j1 kj3 false)))) else (topiaristlaw20_BytesTell.j1 kj3 false))) else (topiaristlaw20_BytesTell.j1 kj3 false)) else (topiaristlaw20_BytesTell.j1 kj3 false)) else (topiaristlaw20_BytesTell.j1 kj3 false)) else (topiaristlaw20_BytesTell.j1 kj3 false))) else (topiaristlaw20_BytesTell.j1 kj3 false)) else (topiaristlaw20_BytesTell.j1 kj3 false)) else (topiaristlaw20_BytesTell.j1 kj3 false)) else (topiaristlaw20_BytesTell.j1 kj3 false))))) else (topiaristlaw20_BytesTell.j1 kj3 false)))))))))))) else (none)) = some r := by first | (rw [hy102]; with_reducible exact H) | (have H2_ := (Option.bind_some _ _).symm.trans H; rw [hy102]; with_reducible exact H2_) | (have H2_ := (Option.bind_some _ _).symm.trans H; with_reducible exact H2_) | with_reducible exact H | (rw [hy102]; exact H) | exact H
        have Ny102 := Aside0.mk hy102
        clear hy102
        by_cases c9 : y102.length + l0.length < 140737488355328
        · rw [if_pos c9] at H
          have LMc9 := Aside0.mk c9
          clear c9
          obtain ⟨y105, hy105⟩ : ∃ y_ : List Int, y_ = (y102 ++ l0) := ⟨_, rfl⟩
          replace H : ((bytes_ReadNum.f y105).bind fun bt108 => ((topiaristref20_ReadNum.f kj3 l0).bind fun bt111 => ((bytes_ReadText.f y105).bind fun bt116 => ((topiaristref20_ReadText.f kj3 l0).bind fun bt119 => ((bytes_Open.f kj3 y105).bind fun bt124 => ((topiaristref20_Open.f kj3 l0).bind fun bt128 => ((bytes_Num.f kj3 y105 a1).bind fun t132 => ((topiaristref20_Num.f kj3 l0 a1).bind fun t135 => ((topiaristkeep_Bytes.f t132 t135).bind fun t138 => (if t138 = true then ((bytes_Text.f kj3 y105 a2).bind fun t139 => ((topiaristref20_Text.f kj3 l0 a2).bind fun t142 => ((topiaristkeep_Bytes.f t139 t142).bind fun t145 => (if t145 = true then (if bt108.1 = bt111.1 then (if bt108.2.1 = bt111.2.1 then (if ((bt108.2.2 == 0) == bt111.2.2.2) = true then (if bt111.2.2.2 = true then (if bt116.1.toList = bt119.2.2.1.toList then (if bt116.2.1 = bt119.2.1 then (if ((bt116.2.2 == 0) == bt119.2.2.2) = true then (if bt119.2.2.2 = true then ((bytes_Sum.f kj3 y105).bind fun t146 => ((topiaristref20_Sum.f kj3 l0).bind fun t147 => (if t146 = t147 then ((bytes_Seal.f kj3 y105).bind fun t148 => ((topiaristref20_Seal.f kj3 l0).bind fun t151 => ((topiaristkeep_Bytes.f t148 t151).bind fun t154 => (if t154 = true then ((topiaristkeep_Bytes.f bt124.1 bt128.1).bind fun t155 => (if t155 = true then (if bt124.2 = bt128.2 then ((topiaristkeep_Bytes.f y105 l0).bind fun t156 => (if t156 = true then ((topiaristlaw20_wakes.f kj3).bind fun t157 => (topiaristlaw20_BytesTell.j1 kj3 t157)) else (topiaristlaw20_BytesTell.j1 kj3 false))) else (topiaristlaw20_BytesTell.j1 kj3 false)) else (topiaristlaw20_BytesTell.j1 kj3 false))) else (topiaristlaw20_BytesTell.j1 kj3 false))))) else (topiaristlaw20_BytesTell.j1 kj3 false)))) else (if bt116.2.2 = 16 then ((bytes_Sum.f kj3 y105).bind fun t158 => ((topiaristref20_Sum.f kj3 l0).bind fun t159 => (if t158 = t159 then ((bytes_Seal.f kj3 y105).bind fun t160 => ((topiaristref20_Seal.f kj3 l0).bind fun t163 => ((topiaristkeep_Bytes.f t160 t163).bind fun t166 => (if t166 = true then ((topiaristkeep_Bytes.f bt124.1 bt128.1).bind fun t167 => (if t167 = true then (if bt124.2 = bt128.2 then ((topiaristkeep_Bytes.f y105 l0).bind fun t168 => (if t168 = true then ((topiaristlaw20_wakes.f kj3).bind fun t169 => (topiaristlaw20_BytesTell.j1 kj3 t169)) else (topiaristlaw20_BytesTell.j1 kj3 false))) else (topiaristlaw20_BytesTell.j1 kj3 false)) else (topiaristlaw20_BytesTell.j1 kj3 false))) else (topiaristlaw20_BytesTell.j1 kj3 false))))) else (topiaristlaw20_BytesTell.j1 kj3 false)))) else (topiaristlaw20_BytesTell.j1 kj3 false))) else (topiaristlaw20_BytesTell.j1 kj3 false)) else (topiaristlaw20_BytesTell.j1 kj3 false)) else (topiaristlaw20_BytesTell.j1 kj3 false)) else (if bt108.2.2 = 16 then (if bt116.1.toList = bt119.2.2.1.toList then (if bt116.2.1 = bt119.2.1 then (if ((bt116.2.2 == 0) == bt119.2.2.2) = true then (if bt119.2.2.2 = true then ((bytes_Sum.f kj3 y105).bind fun t170 => ((topiaristref20_Sum.f kj3 l0).bind fun t171 => (if t170 = t171 then ((bytes_Seal.f kj3 y105).bind fun t172 => ((topiaristref20_Seal.f kj3 l0).bind fun t175 => ((topiaristkeep_Bytes.f t172 t175).bind fun t178 => (if t178 = true then ((topiaristkeep_Bytes.f bt124.1 bt128.1).bind fun t179 => (if t179 = true then (if bt124.2 = bt128.2 then ((topiaristkeep_Bytes.f y105 l0).bind fun t180 => (if t180 = true then ((topiaristlaw20_wakes.f kj3).bind fun t181 => (topiaristlaw20_BytesTell.j1 kj3 t181)) else (topiaristlaw20_BytesTell.j1 kj3 false))) else (topiaristlaw20_BytesTell.j1 kj3 false)) else (topiaristlaw20_BytesTell.j1 kj3 false))) else (topiaristlaw20_BytesTell.j1 kj3 false))))) else (topiaristlaw20_BytesTell.j1 kj3 false)))) else (if bt116.2.2 = 16 then ((bytes_Sum.f kj3 y105).bind fun t182 => ((topiaristref20_Sum.f kj3 l0).bind fun t183 => (if t182 = t183 then ((bytes_Seal.f kj3 y105).bind fun t184 => ((topiaristref20_Seal.f kj3 l0).bind fun t187 => ((topiaristkeep_Bytes.f t184 t187).bind fun t190 => (if t190 = true then ((topiaristkeep_Bytes.f bt124.1 bt128.1).bind fun t191 => (if t191 = true then (if bt124.2 = bt128.2 then ((topiaristkeep_Bytes.f y105 l0).bind fun t192 => (if t192 = true then ((topiaristlaw20_wakes.f kj3).bind fun t193 => (topiaristlaw20_BytesTell.j1 kj3 t193)) else (topiaristlaw20_BytesTell.j1 kj3 false))) else (topiaristlaw20_BytesTell.j1 kj3 false)) else (topiaristlaw20_BytesTell.j1 kj3 false))) else (topiaristlaw20_BytesTell.j1 kj3 false))))) else (topiaristlaw20_BytesTell.j1 kj3 false)))) else (topiaristlaw20_BytesTell.j1 kj3 false))) else (topiaristlaw20_BytesTell.j1 kj3 false)) else (topiaristlaw20_BytesTell.j1 kj3 false)) else (topiaristlaw20_BytesTell.j1 kj3 false)) else (topiaristlaw20_BytesTell.j1 kj3 false))) else (topiaristlaw20_BytesTell.j1 kj3 false)) else (topiaristlaw20_BytesTell.j1 kj3 false)) else (topiaristlaw20_BytesTell.j1 kj3 false)) else (topiaristlaw20_BytesTell.j1 kj3 false))))) else (topiaristlaw20_BytesTell.j1 kj3 false))))))))))) = some r := by first | (rw [hy105]; with_reducible exact H) | (have H2_ := (Option.bind_some _ _).symm.trans H; rw [hy105]; with_reducible exact H2_) | (have H2_ := (Option.bind_some _ _).symm.trans H; with_reducible exact H2_) | with_reducible exact H | (rw [hy105]; exact H) | exact H
          have Ny105 := Aside0.mk hy105
          clear hy105
          replace H := Option.bind_eq_some_iff.mp H
          obtain ⟨⟨t108, t109, t110⟩, A100, H⟩ := H
          try dsimp only at H
          have A10 := Aside0.mk A100
          clear A100
          replace H := Option.bind_eq_some_iff.mp H
          obtain ⟨⟨t111, t112, t113, t114⟩, A110, H⟩ := H
          try dsimp only at H
          have A11 := Aside0.mk A110
          clear A110
          replace H := Option.bind_eq_some_iff.mp H
          obtain ⟨⟨t116, t117, t118⟩, A120, H⟩ := H
          try dsimp only at H
          have A12 := Aside0.mk A120
          clear A120
          replace H := Option.bind_eq_some_iff.mp H
          obtain ⟨⟨t119, t120, t121, t122⟩, A130, H⟩ := H
          try dsimp only at H
          have A13 := Aside0.mk A130
          clear A130
          replace H := Option.bind_eq_some_iff.mp H
          obtain ⟨⟨t124, t125⟩, A140, H⟩ := H
          try dsimp only at H
          have A14 := Aside0.mk A140
          clear A140
          replace H := Option.bind_eq_some_iff.mp H
          obtain ⟨⟨t128, t129⟩, A150, H⟩ := H
          try dsimp only at H
          have A15 := Aside0.mk A150
          clear A150
          have HC16 := Aside0.mk H
          clear H
          go_upto_region 10 with (first | ((with_reducible refine gate_dst (N := 29) rfl ?_); (try (refine gate_guard (by rfl) ?_; dsimp only)); refine Kd.R_lit (Kd.int .u8) _ 5 ?hg (N := 29) ?hd (xs := ([] : List Int)) (inner := []) (ok := fun _ => True) (okp := fun _ => True) ?hr ?hp (fun _ hk => hk) trivial (Below.refl _ _) (Nat.le_refl _) (by simp) ?_; (case hd => rfl); (case hg => rfl); (case hr => first | (go_simp; done) | (go_simp; rfl)); (case hp => exact (Reps.none _ _)); intro v103 w17 ho18 hb hg_ hnew_; clear hg_ hnew_; (first | rw [← Ny102.out] at ho18 | (simp only [Int.reduceToNat] at ho18; rw [← Ny102.out] at ho18)); have n0_ := Aside0.mk (Kd.R_lower ho18 (below_size (by repeat (first | (with_reducible first | exact HB.out | apply below_alloc | apply pw_below_drewN | apply below_drew1) | exact HB.out)))); have n1_ := Aside0.mk (below_step (by repeat (first | (with_reducible first | exact HB.out | apply below_alloc | apply pw_below_drewN | apply below_drew1) | exact HB.out)) hb); clear HB; have HO104 := n0_; have HB := n1_; clear n0_ n1_; clear hb ho18) | ((with_reducible refine gate_builtin (b := .append) (xs := #[.tmp 29, .tmp 30]) rfl ?_); (try (refine gate_guard (by rfl) ?_; dsimp only)); at_builtin; refine Kd.R_append_rows (Kd.int .u8) (w0 := w) w.heap.size rfl (.tmp 29) (.tmp 30) 22 5 (.int .u8 0) 1 rfl Try.underlying22 info5 rfl (by decide) (by omega) v103 y102 l0 _ _ _ (fun _ => True) (fun _ => False) rfl rfl ?aO ?aR (fun _ _ h => h) (fun _ h => h.elim) ?aF ?aB ?aS ?aL ?_; (case aR => repeat (first | exact (Kd.C_below HR0.out HB.out) | (with_reducible refine Kd.C_alloc ?_ _) | (with_reducible refine Kd.C_drewN ?_ _) | (with_reducible refine Kd.C_drew ?_))); (case aB => exact (by repeat (first | (with_reducible first | exact HB.out | apply below_alloc | apply pw_below_drewN | apply below_drew1) | exact HB.out))); (case aF => exact (fun _ _ => trivial)); (case aO => exact (by (with_reducible repeat (first | apply Kd.R_alloc | apply Kd.R_drewN | apply Kd.R_drew)); exact HO104.out)); (case aS => exact (below_size (by repeat (first | (with_reducible first | exact HB.out | apply below_alloc | apply pw_below_drewN | apply below_drew1) | exact HB.out)))); (case aL => have := LMc9.out; omega); intro v106 w19 ho hb hg hat; rw [← Ny105.out] at ho; have n0_ := Aside0.mk (hb); have n1_ := Aside0.mk (ho); clear HB; clear HO104; have HB := n0_; have HO107 := n1_; clear n0_ n1_; clear ho hb hg hat; obtain ⟨Ao20, co20, eo20⟩ := Kd.R_slice HO107.out; subst eo20) | ((with_reducible refine gate_callee (f := 8) rfl ?_); refine goesL_ (some 34) rfl rfl Try.func8 (by kernel_rfl) rfl #[.slice Ao20 y105.length co20] rfl (by (try simp only [List.map_toArray, List.map_cons, List.map_nil]); first | done | rfl | (simp only [List.length_drop, List.length_take]; rfl)) ?_; (with_reducible refine (bytes_ReadNum.calls _ _ y105 t108 t109 t110 _ ?side1 ?side2 A10.out).mono ?_); (case side1 => repeat (first | exact (Kd.R_reads' HO107.out).2.2 | (with_reducible refine Kd.C_alloc ?_ _) | (with_reducible refine Kd.C_drewN ?_ _) | (with_reducible refine Kd.C_drew ?_))); (case side2 => exact (Kd.R_reads' HO107.out).2.1); rintro e w21 ⟨rfl, hb⟩; refine ⟨_, rfl, ?_⟩; have n0_ := Aside0.mk (Kd.R_below (by (with_reducible repeat (first | apply Kd.R_alloc | apply Kd.R_drewN | apply Kd.R_drew)); exact HO107.out) hb); have n1_ := Aside0.mk (below_step (by repeat (first | (with_reducible first | exact HB.out | apply below_alloc | apply pw_below_drewN | apply below_drew1) | exact HB.out)) hb); clear HO107; clear HB; have HO107 := n0_; have HB := n1_; clear n0_ n1_; (try clear hb); (try clear hb2); (try clear hk); (try clear hi)) | ((with_reducible refine gate_callee (f := 9) rfl ?_); refine goesL_ (some 39) rfl rfl Try.func9 (by kernel_rfl) rfl #[.slice A0 l0.length c0] rfl (by (try simp only [List.map_toArray, List.map_cons, List.map_nil]); first | done | rfl | (simp only [List.length_drop, List.length_take]; rfl)) ?_; (with_reducible refine (topiaristref20_ReadNum.calls kj3 _ _ l0 t111 t112 t113 t114 _ ?side1 ?side2 A11.out).mono ?_); (case side1 => repeat (first | exact (Kd.C_below HR0.out HB.out) | (with_reducible refine Kd.C_alloc ?_ _) | (with_reducible refine Kd.C_drewN ?_ _) | (with_reducible refine Kd.C_drew ?_))); (case side2 => exact HC0.out); rintro e w22 ⟨rfl, hb⟩; refine ⟨_, rfl, ?_⟩; have n0_ := Aside0.mk (Kd.R_below (by (with_reducible repeat (first | apply Kd.R_alloc | apply Kd.R_drewN | apply Kd.R_drew)); exact HO107.out) hb); have n1_ := Aside0.mk (below_step (by repeat (first | (with_reducible first | exact HB.out | apply below_alloc | apply pw_below_drewN | apply below_drew1) | exact HB.out)) hb); clear HO107; clear HB; have HO107 := n0_; have HB := n1_; clear n0_ n1_; (try clear hb); (try clear hb2); (try clear hk); (try clear hi)) | ((with_reducible refine gate_dst (N := 11) rfl ?_); (try (refine gate_guard (by rfl) ?_; dsimp only)); refine box_event ?hg (N := 11) ?hd (cs := #[.int .i64 0, .int .i64 0, .string (⟨#[]⟩ : ByteArray), .bool false]) (t := 28) ?hr ?_; (case hd => rfl); (case hg => rfl); (case hr => first | (go_simp; done) | (go_simp; rfl)); intro gb115 hg w23 hbox hb; have n0_ := Aside0.mk (Kd.R_below (by (with_reducible repeat (first | apply Kd.R_alloc | apply Kd.R_drewN | apply Kd.R_drew)); exact HO107.out) hb); have n1_ := Aside0.mk (below_step (by repeat (first | (with_reducible first | exact HB.out | apply below_alloc | apply pw_below_drewN | apply below_drew1) | exact HB.out)) hb); have n2_ := Aside0.mk (hbox); have n3_ := Aside0.mk ((by rw [hg]; exact (below_size (by repeat (first | (with_reducible first | exact HB.out | apply below_alloc | apply pw_below_drewN | apply below_drew1) | exact HB.out))) : w.heap.size ≤ gb115)); have n4_ := Aside0.mk ((by rw [hg]; exact (below_size (by repeat (first | (with_reducible first | exact HB.out | apply below_alloc | apply pw_below_drewN | apply below_drew1) | exact HB.out))) : w.heap.size ≤ gb115)); clear HO107; clear HB; have HO107 := n0_; have HB := n1_; have BK115 := n2_; have GW115 := n3_; have GE115 := n4_; clear n0_ n1_ n2_ n3_ n4_; clear hb hbox hg; have hcz24_0 : w23.cell? ⟨gb115, 0, none⟩ = some (.int .i64 0) := (blk_cell BK115.out 0).trans rfl; have hcz24_1 : w23.cell? ⟨gb115, 1, none⟩ = some (.int .i64 0) := (blk_cell BK115.out 1).trans rfl; have hcz24_2 : w23.cell? ⟨gb115, 2, none⟩ = some (.string (⟨#[]⟩ : ByteArray)) := (blk_cell BK115.out 2).trans rfl; have hcz24_3 : w23.cell? ⟨gb115, 3, none⟩ = some (.bool false) := (blk_cell BK115.out 3).trans rfl; have hfz24_0 := blk_frozen BK115.out 0; have hfz24_1 := blk_frozen BK115.out 1; have hfz24_2 := blk_frozen BK115.out 2; have hfz24_3 := blk_frozen BK115.out 3) | ((with_reducible refine gate_callee (f := 10) rfl ?_); refine goesL_ (some 42) rfl rfl Try.func10 (by kernel_rfl) rfl #[.slice Ao20 y105.length co20] rfl (by (try simp only [List.map_toArray, List.map_cons, List.map_nil]); first | done | rfl | (simp only [List.length_drop, List.length_take]; rfl)) ?_; (with_reducible refine (bytes_ReadText.calls _ _ y105 t116 t117 t118 _ ?side1 ?side2 A12.out).mono ?_); (case side1 => refine (Kd.R_reads' (e := 5) (base := w.heap.size) (ok := fun k_ => True) (n := y105.length) (c := co20) ?_).2.2; exact (by (with_reducible repeat (first | apply Kd.R_alloc | apply Kd.R_drewN | apply Kd.R_drew)); exact (Kd.R_mono (Kd.R_far (p := ⟨gb115, 3, none⟩) (Kd.R_far (p := ⟨gb115, 2, none⟩) (Kd.R_far (p := ⟨gb115, 1, none⟩) (Kd.R_far (p := ⟨gb115, 0, none⟩) (Kd.R_types HO107.out BK115.out (by decide)) (fun _ hk => hk.2) (.int .i64 t111)) (fun _ hk => hk.2) (.int .i64 t112)) (fun _ hk => hk.2) (.string t113)) (fun _ hk => hk.2) (.bool t114)) (fun _ h_ => h_.1)))); (case side2 => exact (Kd.R_reads' HO107.out).2.1); rintro e w25 ⟨rfl, hb⟩; refine ⟨_, rfl, ?_⟩; have n0_ := Aside0.mk (Kd.R_below (by (with_reducible repeat (first | apply Kd.R_alloc | apply Kd.R_drewN | apply Kd.R_drew)); exact (Kd.R_mono (Kd.R_far (p := ⟨gb115, 3, none⟩) (Kd.R_far (p := ⟨gb115, 2, none⟩) (Kd.R_far (p := ⟨gb115, 1, none⟩) (Kd.R_far (p := ⟨gb115, 0, none⟩) (Kd.R_types HO107.out BK115.out (by decide)) (fun _ hk => hk.2) (.int .i64 t111)) (fun _ hk => hk.2) (.int .i64 t112)) (fun _ hk => hk.2) (.string t113)) (fun _ hk => hk.2) (.bool t114)) (fun _ h_ => h_.1))) hb); have n1_ := Aside0.mk (blk_below (g := gb115) (o := .cells #[.int .i64 t111, .int .i64 t112, .string t113, .bool t114] 28 (0, 0)) (by (with_reducible repeat (first | refine blk_drewN ?_ _ | refine blk_drew ?_ | refine blk_alloc ?_ _)); refine blk_put (cs := #[.int .i64 t111, .int .i64 t112, .string t113, .bool false]) ?_ 3 _ rfl; (with_reducible repeat (first | refine blk_drewN ?_ _ | refine blk_drew ?_ | refine blk_alloc ?_ _)); refine blk_put (cs := #[.int .i64 t111, .int .i64 t112, .string (⟨#[]⟩ : ByteArray), .bool false]) ?_ 2 _ rfl; (with_reducible repeat (first | refine blk_drewN ?_ _ | refine blk_drew ?_ | refine blk_alloc ?_ _)); refine blk_put (cs := #[.int .i64 t111, .int .i64 0, .string (⟨#[]⟩ : ByteArray), .bool false]) ?_ 1 _ rfl; (with_reducible repeat (first | refine blk_drewN ?_ _ | refine blk_drew ?_ | refine blk_alloc ?_ _)); refine blk_put (cs := #[.int .i64 0, .int .i64 0, .string (⟨#[]⟩ : ByteArray), .bool false]) ?_ 0 _ rfl; (with_reducible repeat (first | refine blk_drewN ?_ _ | refine blk_drew ?_ | refine blk_alloc ?_ _)); exact BK115.out) hb); have n2_ := Aside0.mk (below_step (by repeat (first | (with_reducible first | exact HB.out | apply below_alloc | apply pw_below_drewN | apply below_drew1 | refine below_set ?_ GE115.out) | exact HB.out)) hb); clear HO107; clear BK115; clear HB; have HO107 := n0_; have BK115 := n1_; have HB := n2_; clear n0_ n1_ n2_; (try clear hb); (try clear hb2); (try clear hk); (try clear hi)) | ((with_reducible refine gate_callee (f := 11) rfl ?_); refine goesL_ (some 47) rfl rfl Try.func11 (by kernel_rfl) rfl #[.slice A0 l0.length c0] rfl (by (try simp only [List.map_toArray, List.map_cons, List.map_nil]); first | done | rfl | (simp only [List.length_drop, List.length_take]; rfl)) ?_; (with_reducible refine (topiaristref20_ReadText.calls kj3 _ _ l0 t119 t120 t121 t122 _ ?side1 ?side2 A13.out).mono ?_); (case side1 => repeat (first | exact (Kd.C_below HR0.out HB.out) | (with_reducible refine Kd.C_alloc ?_ _) | (with_reducible refine Kd.C_drewN ?_ _) | (with_reducible refine Kd.C_drew ?_))); (case side2 => exact HC0.out); rintro e w26 ⟨rfl, hb⟩; refine ⟨_, rfl, ?_⟩; have n0_ := Aside0.mk (Kd.R_below (by (with_reducible repeat (first | apply Kd.R_alloc | apply Kd.R_drewN | apply Kd.R_drew)); exact HO107.out) hb); have n1_ := Aside0.mk (blk_below (g := gb115) (o := .cells #[.int .i64 t111, .int .i64 t112, .string t113, .bool t114] 28 (0, 0)) (by (with_reducible repeat (first | refine blk_drewN ?_ _ | refine blk_drew ?_ | refine blk_alloc ?_ _)); exact BK115.out) hb); have n2_ := Aside0.mk (below_step (by repeat (first | (with_reducible first | exact HB.out | apply below_alloc | apply pw_below_drewN | apply below_drew1 | refine below_set ?_ GE115.out) | exact HB.out)) hb); clear HO107; clear BK115; clear HB; have HO107 := n0_; have BK115 := n1_; have HB := n2_; clear n0_ n1_ n2_; (try clear hb); (try clear hb2); (try clear hk); (try clear hi)) | ((with_reducible refine gate_dst (N := 15) rfl ?_); (try (refine gate_guard (by rfl) ?_; dsimp only)); refine box_event ?hg (N := 15) ?hd (cs := #[.int .i64 0, .int .i64 0, .string (⟨#[]⟩ : ByteArray), .bool false]) (t := 28) ?hr ?_; (case hd => rfl); (case hg => rfl); (case hr => first | (go_simp; done) | (go_simp; rfl)); intro gb123 hg w27 hbox hb; have n0_ := Aside0.mk (Kd.R_below (by (with_reducible repeat (first | apply Kd.R_alloc | apply Kd.R_drewN | apply Kd.R_drew)); exact HO107.out) hb); have n1_ := Aside0.mk (blk_below (g := gb115) (o := .cells #[.int .i64 t111, .int .i64 t112, .string t113, .bool t114] 28 (0, 0)) (by (with_reducible repeat (first | refine blk_drewN ?_ _ | refine blk_drew ?_ | refine blk_alloc ?_ _)); exact BK115.out) hb); have n2_ := Aside0.mk (below_step (by repeat (first | (with_reducible first | exact HB.out | apply below_alloc | apply pw_below_drewN | apply below_drew1 | refine below_set ?_ GE115.out) | exact HB.out)) hb); have n3_ := Aside0.mk (hbox); have n4_ := Aside0.mk ((by rw [hg]; exact (below_size (by repeat (first | (with_reducible first | exact HB.out | apply below_alloc | apply pw_below_drewN | apply below_drew1 | refine below_set ?_ GE115.out) | exact HB.out))) : w.heap.size ≤ gb123)); have n5_ := Aside0.mk ((by rw [hg]; exact (below_size (by repeat (first | (with_reducible first | exact HB.out | apply below_alloc | apply pw_below_drewN | apply below_drew1 | refine below_set ?_ GE115.out) | exact HB.out))) : w.heap.size ≤ gb123)); have n6_ := Aside0.mk ((by rw [hg]; exact Nat.ne_of_lt (blk_lt (g := gb115) (o := .cells #[.int .i64 t111, .int .i64 t112, .string t113, .bool t114] 28 (0, 0)) (by (with_reducible repeat (first | refine blk_drewN ?_ _ | refine blk_drew ?_ | refine blk_alloc ?_ _)); exact BK115.out)) : gb115 ≠ gb123)); have n7_ := Aside0.mk ((by rw [hg]; exact Nat.ne_of_gt (blk_lt (g := gb115) (o := .cells #[.int .i64 t111, .int .i64 t112, .string t113, .bool t114] 28 (0, 0)) (by (with_reducible repeat (first | refine blk_drewN ?_ _ | refine blk_drew ?_ | refine blk_alloc ?_ _)); exact BK115.out)) : gb123 ≠ gb115)); clear HO107; clear BK115; clear HB; have HO107 := n0_; have BK115 := n1_; have HB := n2_; have BK123 := n3_; have GW123 := n4_; have GE123 := n5_; have NB115_123 := n6_; have NB123_115 := n7_; clear n0_ n1_ n2_ n3_ n4_ n5_ n6_ n7_; clear hb hbox hg; have hnb28 := NB123_115.out; have hnc28 := NB115_123.out; have hcz29_0 : w27.cell? ⟨gb123, 0, none⟩ = some (.int .i64 0) := (blk_cell BK123.out 0).trans rfl; have hcz29_1 : w27.cell? ⟨gb123, 1, none⟩ = some (.int .i64 0) := (blk_cell BK123.out 1).trans rfl; have hcz29_2 : w27.cell? ⟨gb123, 2, none⟩ = some (.string (⟨#[]⟩ : ByteArray)) := (blk_cell BK123.out 2).trans rfl; have hcz29_3 : w27.cell? ⟨gb123, 3, none⟩ = some (.bool false) := (blk_cell BK123.out 3).trans rfl; have hfz29_0 := blk_frozen BK123.out 0; have hfz29_1 := blk_frozen BK123.out 1; have hfz29_2 := blk_frozen BK123.out 2; have hfz29_3 := blk_frozen BK123.out 3) | ((with_reducible refine gate_callee (f := 12) rfl ?_); refine goesL_ (some 50) rfl rfl Try.func12 (by kernel_rfl) rfl #[.slice Ao20 y105.length co20] rfl (by (try simp only [List.map_toArray, List.map_cons, List.map_nil]); first | done | rfl | (simp only [List.length_drop, List.length_take]; rfl)) ?_; (with_reducible refine (bytes_Open.calls kj3 _ _ y105 t124 t125 _ ?side1 ?side2 A14.out).mono ?_); (case side1 => refine (Kd.R_reads' (e := 5) (base := w.heap.size) (ok := fun k_ => True) (n := y105.length) (c := co20) ?_).2.2; exact (by (with_reducible repeat (first | apply Kd.R_alloc | apply Kd.R_drewN | apply Kd.R_drew)); exact (Kd.R_mono (Kd.R_far (p := ⟨gb123, 3, none⟩) (Kd.R_far (p := ⟨gb123, 2, none⟩) (Kd.R_far (p := ⟨gb123, 1, none⟩) (Kd.R_far (p := ⟨gb123, 0, none⟩) (Kd.R_types HO107.out BK123.out (by decide)) (fun _ hk => hk.2) (.int .i64 t119)) (fun _ hk => hk.2) (.int .i64 t120)) (fun _ hk => hk.2) (.string t121)) (fun _ hk => hk.2) (.bool t122)) (fun _ h_ => h_.1)))); (case side2 => exact (Kd.R_reads' HO107.out).2.1); rintro e w30 ⟨v126, rfl, ho0, hb⟩; refine ⟨_, rfl, ?_⟩; have n0_ := Aside0.mk (Kd.R_elder' (by (with_reducible repeat (first | apply Kd.R_alloc | apply Kd.R_drewN | apply Kd.R_drew)); exact (Kd.R_mono (Kd.R_far (p := ⟨gb123, 3, none⟩) (Kd.R_far (p := ⟨gb123, 2, none⟩) (Kd.R_far (p := ⟨gb123, 1, none⟩) (Kd.R_far (p := ⟨gb123, 0, none⟩) (Kd.R_types HO107.out BK123.out (by decide)) (fun _ hk => hk.2) (.int .i64 t119)) (fun _ hk => hk.2) (.int .i64 t120)) (fun _ hk => hk.2) (.string t121)) (fun _ hk => hk.2) (.bool t122)) (fun _ h_ => h_.1))) (Kd.R_base ho0) hb); have n1_ := Aside0.mk (Kd.R_lower (Kd.R_new' ho0 (Kd.R_lt (by (with_reducible repeat (first | apply Kd.R_alloc | apply Kd.R_drewN | apply Kd.R_drew)); exact (Kd.R_mono (Kd.R_far (p := ⟨gb123, 3, none⟩) (Kd.R_far (p := ⟨gb123, 2, none⟩) (Kd.R_far (p := ⟨gb123, 1, none⟩) (Kd.R_far (p := ⟨gb123, 0, none⟩) (Kd.R_types HO107.out BK123.out (by decide)) (fun _ hk => hk.2) (.int .i64 t119)) (fun _ hk => hk.2) (.int .i64 t120)) (fun _ hk => hk.2) (.string t121)) (fun _ hk => hk.2) (.bool t122)) (fun _ h_ => h_.1))))) (below_size (by repeat (first | (with_reducible first | exact HB.out | apply below_alloc | apply pw_below_drewN | apply below_drew1 | refine below_set ?_ GE115.out | refine below_set ?_ GE123.out) | exact HB.out)))); have n2_ := Aside0.mk (blk_below (g := gb115) (o := .cells #[.int .i64 t111, .int .i64 t112, .string t113, .bool t114] 28 (0, 0)) (by (with_reducible repeat (first | refine blk_drewN ?_ _ | refine blk_drew ?_ | refine blk_alloc ?_ _)); refine blk_far ?_ NB115_123.out _; (with_reducible repeat (first | refine blk_drewN ?_ _ | refine blk_drew ?_ | refine blk_alloc ?_ _)); refine blk_far ?_ NB115_123.out _; (with_reducible repeat (first | refine blk_drewN ?_ _ | refine blk_drew ?_ | refine blk_alloc ?_ _)); refine blk_far ?_ NB115_123.out _; (with_reducible repeat (first | refine blk_drewN ?_ _ | refine blk_drew ?_ | refine blk_alloc ?_ _)); refine blk_far ?_ NB115_123.out _; (with_reducible repeat (first | refine blk_drewN ?_ _ | refine blk_drew ?_ | refine blk_alloc ?_ _)); exact BK115.out) hb); have n3_ := Aside0.mk (blk_below (g := gb123) (o := .cells #[.int .i64 t119, .int .i64 t120, .string t121, .bool t122] 28 (0, 0)) (by (with_reducible repeat (first | refine blk_drewN ?_ _ | refine blk_drew ?_ | refine blk_alloc ?_ _)); refine blk_put (cs := #[.int .i64 t119, .int .i64 t120, .string t121, .bool false]) ?_ 3 _ rfl; (with_reducible repeat (first | refine blk_drewN ?_ _ | refine blk_drew ?_ | refine blk_alloc ?_ _)); refine blk_put (cs := #[.int .i64 t119, .int .i64 t120, .string (⟨#[]⟩ : ByteArray), .bool false]) ?_ 2 _ rfl; (with_reducible repeat (first | refine blk_drewN ?_ _ | refine blk_drew ?_ | refine blk_alloc ?_ _)); refine blk_put (cs := #[.int .i64 t119, .int .i64 0, .string (⟨#[]⟩ : ByteArray), .bool false]) ?_ 1 _ rfl; (with_reducible repeat (first | refine blk_drewN ?_ _ | refine blk_drew ?_ | refine blk_alloc ?_ _)); refine blk_put (cs := #[.int .i64 0, .int .i64 0, .string (⟨#[]⟩ : ByteArray), .bool false]) ?_ 0 _ rfl; (with_reducible repeat (first | refine blk_drewN ?_ _ | refine blk_drew ?_ | refine blk_alloc ?_ _)); exact BK123.out) hb); have n4_ := Aside0.mk (below_step (by repeat (first | (with_reducible first | exact HB.out | apply below_alloc | apply pw_below_drewN | apply below_drew1 | refine below_set ?_ GE115.out | refine below_set ?_ GE123.out) | exact HB.out)) hb); clear HO107; clear BK115; clear BK123; clear HB; have HO107 := n0_; have HO127 := n1_; have BK115 := n2_; have BK123 := n3_; have HB := n4_; clear n0_ n1_ n2_ n3_ n4_; (try clear hb); (try clear hb2); (try clear hk); (try clear hi); (try clear ho0)) | ((with_reducible refine gate_callee (f := 13) rfl ?_); refine goesL_ (some 55) rfl rfl Try.func13 (by kernel_rfl) rfl #[.slice A0 l0.length c0] rfl (by (try simp only [List.map_toArray, List.map_cons, List.map_nil]); first | done | rfl | (simp only [List.length_drop, List.length_take]; rfl)) ?_; (with_reducible refine (topiaristref20_Open.calls kj3 _ _ l0 t128 t129 _ ?side1 ?side2 A15.out).mono ?_); (case side1 => repeat (first | exact (Kd.C_below HR0.out HB.out) | (with_reducible refine Kd.C_alloc ?_ _) | (with_reducible refine Kd.C_drewN ?_ _) | (with_reducible refine Kd.C_drew ?_))); (case side2 => exact HC0.out); rintro e w31 ⟨v130, rfl, ho0, hb⟩; refine ⟨_, rfl, ?_⟩; have n0_ := Aside0.mk (Kd.R_elder' (by (with_reducible repeat (first | apply Kd.R_alloc | apply Kd.R_drewN | apply Kd.R_drew)); exact HO107.out) (Kd.R_base ho0) hb); have n1_ := Aside0.mk (Kd.R_elder' (by (with_reducible repeat (first | apply Kd.R_alloc | apply Kd.R_drewN | apply Kd.R_drew)); exact HO127.out) (Kd.R_base ho0) hb); have n2_ := Aside0.mk (Kd.R_lower (Kd.R_new' (Kd.R_new' ho0 (Kd.R_lt (by (with_reducible repeat (first | apply Kd.R_alloc | apply Kd.R_drewN | apply Kd.R_drew)); exact HO107.out))) (Kd.R_lt (by (with_reducible repeat (first | apply Kd.R_alloc | apply Kd.R_drewN | apply Kd.R_drew)); exact HO127.out))) (below_size (by repeat (first | (with_reducible first | exact HB.out | apply below_alloc | apply pw_below_drewN | apply below_drew1 | refine below_set ?_ GE115.out | refine below_set ?_ GE123.out) | exact HB.out)))); have n3_ := Aside0.mk (blk_below (g := gb115) (o := .cells #[.int .i64 t111, .int .i64 t112, .string t113, .bool t114] 28 (0, 0)) (by (with_reducible repeat (first | refine blk_drewN ?_ _ | refine blk_drew ?_ | refine blk_alloc ?_ _)); exact BK115.out) hb); have n4_ := Aside0.mk (blk_below (g := gb123) (o := .cells #[.int .i64 t119, .int .i64 t120, .string t121, .bool t122] 28 (0, 0)) (by (with_reducible repeat (first | refine blk_drewN ?_ _ | refine blk_drew ?_ | refine blk_alloc ?_ _)); exact BK123.out) hb); have n5_ := Aside0.mk (below_step (by repeat (first | (with_reducible first | exact HB.out | apply below_alloc | apply pw_below_drewN | apply below_drew1 | refine below_set ?_ GE115.out | refine below_set ?_ GE123.out) | exact HB.out)) hb); clear HO107; clear HO127; clear BK115; clear BK123; clear HB; have HO107 := n0_; have HO127 := n1_; have HO131 := n2_; have BK115 := n3_; have BK123 := n4_; have HB := n5_; clear n0_ n1_ n2_ n3_ n4_ n5_; (try clear hb); (try clear hb2); (try clear hk); (try clear hi); (try clear ho0)))
          (try simp only [Act.put, List.setIfInBounds_toArray, List.set_cons_zero, List.set_cons_succ])
          go_cut [6] (fun v6 wc => ∃ (kq : Nat) (x6_15 : Bool), v6 = .bool x6_15 ∧ Aside0 (topiaristlaw20_BytesTell.j1 kq x6_15 = some r) ∧ Aside0 (kq ≤ kj3) ∧ Aside0 (wc.heap[gb115]? = some (.cells #[.int .i64 t111, .int .i64 t112, .string t113, .bool t114] 28 (0, 0))) ∧ Aside0 (wc.heap[gb123]? = some (.cells #[.int .i64 t119, .int .i64 t120, .string t121, .bool t122] 28 (0, 0))) ∧ Aside0 (Below w.heap.size w wc))
          case first =>
            have H := HC16.out
            clear HC16
            replace H := Option.bind_eq_some_iff.mp H
            obtain ⟨t132, A320, H⟩ := H
            try dsimp only at H
            have A32 := Aside0.mk A320
            clear A320
            replace H := Option.bind_eq_some_iff.mp H
            obtain ⟨t135, A330, H⟩ := H
            try dsimp only at H
            have A33 := Aside0.mk A330
            clear A330
            replace H := Option.bind_eq_some_iff.mp H
            obtain ⟨t138, A340, H⟩ := H
            try dsimp only at H
            have A34 := Aside0.mk A340
            clear A340
            by_cases c35 : t138 = true
            · subst c35
              have H1 : ((bytes_Text.f kj3 y105 a2).bind fun t139 => ((topiaristref20_Text.f kj3 l0 a2).bind fun t142 => ((topiaristkeep_Bytes.f t139 t142).bind fun t145 => (if t145 = true then (if t108 = t111 then (if t109 = t112 then (if ((t110 == 0) == t114) = true then (if t114 = true then (if t116.toList = t121.toList then (if t117 = t120 then (if ((t118 == 0) == t122) = true then (if t122 = true then ((bytes_Sum.f kj3 y105).bind fun t146 => ((topiaristref20_Sum.f kj3 l0).bind fun t147 => (if t146 = t147 then ((bytes_Seal.f kj3 y105).bind fun t148 => ((topiaristref20_Seal.f kj3 l0).bind fun t151 => ((topiaristkeep_Bytes.f t148 t151).bind fun t154 => (if t154 = true then ((topiaristkeep_Bytes.f t124 t128).bind fun t155 => (if t155 = true then (if t125 = t129 then ((topiaristkeep_Bytes.f y105 l0).bind fun t156 => (if t156 = true then ((topiaristlaw20_wakes.f kj3).bind fun t157 => (topiaristlaw20_BytesTell.j1 kj3 t157)) else (topiaristlaw20_BytesTell.j1 kj3 false))) else (topiaristlaw20_BytesTell.j1 kj3 false)) else (topiaristlaw20_BytesTell.j1 kj3 false))) else (topiaristlaw20_BytesTell.j1 kj3 false))))) else (topiaristlaw20_BytesTell.j1 kj3 false)))) else (if t118 = 16 then ((bytes_Sum.f kj3 y105).bind fun t158 => ((topiaristref20_Sum.f kj3 l0).bind fun t159 => (if t158 = t159 then ((bytes_Seal.f kj3 y105).bind fun t160 => ((topiaristref20_Seal.f kj3 l0).bind fun t163 => ((topiaristkeep_Bytes.f t160 t163).bind fun t166 => (if t166 = true then ((topiaristkeep_Bytes.f t124 t128).bind fun t167 => (if t167 = true then (if t125 = t129 then ((topiaristkeep_Bytes.f y105 l0).bind fun t168 => (if t168 = true then ((topiaristlaw20_wakes.f kj3).bind fun t169 => (topiaristlaw20_BytesTell.j1 kj3 t169)) else (topiaristlaw20_BytesTell.j1 kj3 false))) else (topiaristlaw20_BytesTell.j1 kj3 false)) else (topiaristlaw20_BytesTell.j1 kj3 false))) else (topiaristlaw20_BytesTell.j1 kj3 false))))) else (topiaristlaw20_BytesTell.j1 kj3 false)))) else (topiaristlaw20_BytesTell.j1 kj3 false))) else (topiaristlaw20_BytesTell.j1 kj3 false)) else (topiaristlaw20_BytesTell.j1 kj3 false)) else (topiaristlaw20_BytesTell.j1 kj3 false)) else (if t110 = 16 then (if t116.toList = t121.toList then (if t117 = t120 then (if ((t118 == 0) == t122) = true then (if t122 = true then ((bytes_Sum.f kj3 y105).bind fun t170 => ((topiaristref20_Sum.f kj3 l0).bind fun t171 => (if t170 = t171 then ((bytes_Seal.f kj3 y105).bind fun t172 => ((topiaristref20_Seal.f kj3 l0).bind fun t175 => ((topiaristkeep_Bytes.f t172 t175).bind fun t178 => (if t178 = true then ((topiaristkeep_Bytes.f t124 t128).bind fun t179 => (if t179 = true then (if t125 = t129 then ((topiaristkeep_Bytes.f y105 l0).bind fun t180 => (if t180 = true then ((topiaristlaw20_wakes.f kj3).bind fun t181 => (topiaristlaw20_BytesTell.j1 kj3 t181)) else (topiaristlaw20_BytesTell.j1 kj3 false))) else (topiaristlaw20_BytesTell.j1 kj3 false)) else (topiaristlaw20_BytesTell.j1 kj3 false))) else (topiaristlaw20_BytesTell.j1 kj3 false))))) else (topiaristlaw20_BytesTell.j1 kj3 false)))) else (if t118 = 16 then ((bytes_Sum.f kj3 y105).bind fun t182 => ((topiaristref20_Sum.f kj3 l0).bind fun t183 => (if t182 = t183 then ((bytes_Seal.f kj3 y105).bind fun t184 => ((topiaristref20_Seal.f kj3 l0).bind fun t187 => ((topiaristkeep_Bytes.f t184 t187).bind fun t190 => (if t190 = true then ((topiaristkeep_Bytes.f t124 t128).bind fun t191 => (if t191 = true then (if t125 = t129 then ((topiaristkeep_Bytes.f y105 l0).bind fun t192 => (if t192 = true then ((topiaristlaw20_wakes.f kj3).bind fun t193 => (topiaristlaw20_BytesTell.j1 kj3 t193)) else (topiaristlaw20_BytesTell.j1 kj3 false))) else (topiaristlaw20_BytesTell.j1 kj3 false)) else (topiaristlaw20_BytesTell.j1 kj3 false))) else (topiaristlaw20_BytesTell.j1 kj3 false))))) else (topiaristlaw20_BytesTell.j1 kj3 false)))) else (topiaristlaw20_BytesTell.j1 kj3 false))) else (topiaristlaw20_BytesTell.j1 kj3 false)) else (topiaristlaw20_BytesTell.j1 kj3 false)) else (topiaristlaw20_BytesTell.j1 kj3 false)) else (topiaristlaw20_BytesTell.j1 kj3 false))) else (topiaristlaw20_BytesTell.j1 kj3 false)) else (topiaristlaw20_BytesTell.j1 kj3 false)) else (topiaristlaw20_BytesTell.j1 kj3 false)) else (topiaristlaw20_BytesTell.j1 kj3 false))))) = some r := by rw [if_pos rfl] at H; exact H
              clear H
              have H := H1
              clear H1
              replace H := Option.bind_eq_some_iff.mp H
              obtain ⟨t139, A360, H⟩ := H
              try dsimp only at H
              have A36 := Aside0.mk A360
              clear A360
              replace H := Option.bind_eq_some_iff.mp H
              obtain ⟨t142, A370, H⟩ := H
              try dsimp only at H
              have A37 := Aside0.mk A370
              clear A370
              replace H := Option.bind_eq_some_iff.mp H
              obtain ⟨t145, A380, H⟩ := H
              try dsimp only at H
              have A38 := Aside0.mk A380
              clear A380
              by_cases c39 : t145 = true
              · subst c39
                have H1 : (if t108 = t111 then (if t109 = t112 then (if ((t110 == 0) == t114) = true then (if t114 = true then (if t116.toList = t121.toList then (if t117 = t120 then (if ((t118 == 0) == t122) = true then (if t122 = true then ((bytes_Sum.f kj3 y105).bind fun t146 => ((topiaristref20_Sum.f kj3 l0).bind fun t147 => (if t146 = t147 then ((bytes_Seal.f kj3 y105).bind fun t148 => ((topiaristref20_Seal.f kj3 l0).bind fun t151 => ((topiaristkeep_Bytes.f t148 t151).bind fun t154 => (if t154 = true then ((topiaristkeep_Bytes.f t124 t128).bind fun t155 => (if t155 = true then (if t125 = t129 then ((topiaristkeep_Bytes.f y105 l0).bind fun t156 => (if t156 = true then ((topiaristlaw20_wakes.f kj3).bind fun t157 => (topiaristlaw20_BytesTell.j1 kj3 t157)) else (topiaristlaw20_BytesTell.j1 kj3 false))) else (topiaristlaw20_BytesTell.j1 kj3 false)) else (topiaristlaw20_BytesTell.j1 kj3 false))) else (topiaristlaw20_BytesTell.j1 kj3 false))))) else (topiaristlaw20_BytesTell.j1 kj3 false)))) else (if t118 = 16 then ((bytes_Sum.f kj3 y105).bind fun t158 => ((topiaristref20_Sum.f kj3 l0).bind fun t159 => (if t158 = t159 then ((bytes_Seal.f kj3 y105).bind fun t160 => ((topiaristref20_Seal.f kj3 l0).bind fun t163 => ((topiaristkeep_Bytes.f t160 t163).bind fun t166 => (if t166 = true then ((topiaristkeep_Bytes.f t124 t128).bind fun t167 => (if t167 = true then (if t125 = t129 then ((topiaristkeep_Bytes.f y105 l0).bind fun t168 => (if t168 = true then ((topiaristlaw20_wakes.f kj3).bind fun t169 => (topiaristlaw20_BytesTell.j1 kj3 t169)) else (topiaristlaw20_BytesTell.j1 kj3 false))) else (topiaristlaw20_BytesTell.j1 kj3 false)) else (topiaristlaw20_BytesTell.j1 kj3 false))) else (topiaristlaw20_BytesTell.j1 kj3 false))))) else (topiaristlaw20_BytesTell.j1 kj3 false)))) else (topiaristlaw20_BytesTell.j1 kj3 false))) else (topiaristlaw20_BytesTell.j1 kj3 false)) else (topiaristlaw20_BytesTell.j1 kj3 false)) else (topiaristlaw20_BytesTell.j1 kj3 false)) else (if t110 = 16 then (if t116.toList = t121.toList then (if t117 = t120 then (if ((t118 == 0) == t122) = true then (if t122 = true then ((bytes_Sum.f kj3 y105).bind fun t170 => ((topiaristref20_Sum.f kj3 l0).bind fun t171 => (if t170 = t171 then ((bytes_Seal.f kj3 y105).bind fun t172 => ((topiaristref20_Seal.f kj3 l0).bind fun t175 => ((topiaristkeep_Bytes.f t172 t175).bind fun t178 => (if t178 = true then ((topiaristkeep_Bytes.f t124 t128).bind fun t179 => (if t179 = true then (if t125 = t129 then ((topiaristkeep_Bytes.f y105 l0).bind fun t180 => (if t180 = true then ((topiaristlaw20_wakes.f kj3).bind fun t181 => (topiaristlaw20_BytesTell.j1 kj3 t181)) else (topiaristlaw20_BytesTell.j1 kj3 false))) else (topiaristlaw20_BytesTell.j1 kj3 false)) else (topiaristlaw20_BytesTell.j1 kj3 false))) else (topiaristlaw20_BytesTell.j1 kj3 false))))) else (topiaristlaw20_BytesTell.j1 kj3 false)))) else (if t118 = 16 then ((bytes_Sum.f kj3 y105).bind fun t182 => ((topiaristref20_Sum.f kj3 l0).bind fun t183 => (if t182 = t183 then ((bytes_Seal.f kj3 y105).bind fun t184 => ((topiaristref20_Seal.f kj3 l0).bind fun t187 => ((topiaristkeep_Bytes.f t184 t187).bind fun t190 => (if t190 = true then ((topiaristkeep_Bytes.f t124 t128).bind fun t191 => (if t191 = true then (if t125 = t129 then ((topiaristkeep_Bytes.f y105 l0).bind fun t192 => (if t192 = true then ((topiaristlaw20_wakes.f kj3).bind fun t193 => (topiaristlaw20_BytesTell.j1 kj3 t193)) else (topiaristlaw20_BytesTell.j1 kj3 false))) else (topiaristlaw20_BytesTell.j1 kj3 false)) else (topiaristlaw20_BytesTell.j1 kj3 false))) else (topiaristlaw20_BytesTell.j1 kj3 false))))) else (topiaristlaw20_BytesTell.j1 kj3 false)))) else (topiaristlaw20_BytesTell.j1 kj3 false))) else (topiaristlaw20_BytesTell.j1 kj3 false)) else (topiaristlaw20_BytesTell.j1 kj3 false)) else (topiaristlaw20_BytesTell.j1 kj3 false)) else (topiaristlaw20_BytesTell.j1 kj3 false))) else (topiaristlaw20_BytesTell.j1 kj3 false)) else (topiaristlaw20_BytesTell.j1 kj3 false)) else (topiaristlaw20_BytesTell.j1 kj3 false)) = some r := by rw [if_pos rfl] at H; exact H
                clear H
                have H := H1
                clear H1
                by_cases c40 : t108 = t111
                · rw [if_pos c40] at H
                  have c40b0 : (t108 == t111) = true := beq_iff_eq.mpr c40
                  have c40b1 : (t108 != t111) = false := bne_eq_false_iff_eq.mpr c40
                  clear c40
                  (first | rw [c40b0] | (simp only [i64_w, i32_w]; rw [c40b0]) | skip)
                  by_cases c41 : t109 = t112
                  · rw [if_pos c41] at H
                    have c41b0 : (t109 == t112) = true := beq_iff_eq.mpr c41
                    have c41b1 : (t109 != t112) = false := bne_eq_false_iff_eq.mpr c41
                    clear c41
                    by_cases c42 : ((t110 == 0) == t114) = true
                    · rw [if_pos c42] at H
                      have c42b0 : ((t110 == 0) == t114) = true := c42
                      (try (have c42b1 : decide ((t110 == 0) = t114) = true := by simpa using c42))
                      (try (have c42b2 : ((t110 == 0) == t114) = true := by simpa using c42))
                      clear c42
                      by_cases c43 : t114 = true
                      · subst c43
                        have H1 : (if t116.toList = t121.toList then (if t117 = t120 then (if ((t118 == 0) == t122) = true then (if t122 = true then ((bytes_Sum.f kj3 y105).bind fun t146 => ((topiaristref20_Sum.f kj3 l0).bind fun t147 => (if t146 = t147 then ((bytes_Seal.f kj3 y105).bind fun t148 => ((topiaristref20_Seal.f kj3 l0).bind fun t151 => ((topiaristkeep_Bytes.f t148 t151).bind fun t154 => (if t154 = true then ((topiaristkeep_Bytes.f t124 t128).bind fun t155 => (if t155 = true then (if t125 = t129 then ((topiaristkeep_Bytes.f y105 l0).bind fun t156 => (if t156 = true then ((topiaristlaw20_wakes.f kj3).bind fun t157 => (topiaristlaw20_BytesTell.j1 kj3 t157)) else (topiaristlaw20_BytesTell.j1 kj3 false))) else (topiaristlaw20_BytesTell.j1 kj3 false)) else (topiaristlaw20_BytesTell.j1 kj3 false))) else (topiaristlaw20_BytesTell.j1 kj3 false))))) else (topiaristlaw20_BytesTell.j1 kj3 false)))) else (if t118 = 16 then ((bytes_Sum.f kj3 y105).bind fun t158 => ((topiaristref20_Sum.f kj3 l0).bind fun t159 => (if t158 = t159 then ((bytes_Seal.f kj3 y105).bind fun t160 => ((topiaristref20_Seal.f kj3 l0).bind fun t163 => ((topiaristkeep_Bytes.f t160 t163).bind fun t166 => (if t166 = true then ((topiaristkeep_Bytes.f t124 t128).bind fun t167 => (if t167 = true then (if t125 = t129 then ((topiaristkeep_Bytes.f y105 l0).bind fun t168 => (if t168 = true then ((topiaristlaw20_wakes.f kj3).bind fun t169 => (topiaristlaw20_BytesTell.j1 kj3 t169)) else (topiaristlaw20_BytesTell.j1 kj3 false))) else (topiaristlaw20_BytesTell.j1 kj3 false)) else (topiaristlaw20_BytesTell.j1 kj3 false))) else (topiaristlaw20_BytesTell.j1 kj3 false))))) else (topiaristlaw20_BytesTell.j1 kj3 false)))) else (topiaristlaw20_BytesTell.j1 kj3 false))) else (topiaristlaw20_BytesTell.j1 kj3 false)) else (topiaristlaw20_BytesTell.j1 kj3 false)) else (topiaristlaw20_BytesTell.j1 kj3 false)) = some r := by rw [if_pos rfl] at H; exact H
                        clear H
                        have H := H1
                        clear H1
                        by_cases c44 : t116.toList = t121.toList
                        · rw [if_pos c44] at H
                          have c44b0 : (t116.toList == t121.toList) = true := beq_iff_eq.mpr c44
                          have c44b1 : (t116.toList != t121.toList) = false := bne_eq_false_iff_eq.mpr c44
                          clear c44
                          by_cases c45 : t117 = t120
                          · rw [if_pos c45] at H
                            have c45b0 : (t117 == t120) = true := beq_iff_eq.mpr c45
                            have c45b1 : (t117 != t120) = false := bne_eq_false_iff_eq.mpr c45
                            clear c45
                            by_cases c46 : ((t118 == 0) == t122) = true
                            · rw [if_pos c46] at H
                              have c46b0 : ((t118 == 0) == t122) = true := c46
                              (try (have c46b1 : decide ((t118 == 0) = t122) = true := by simpa using c46))
                              (try (have c46b2 : ((t118 == 0) == t122) = true := by simpa using c46))
                              clear c46
                              by_cases c47 : t122 = true
                              · subst c47
                                have H1 : ((bytes_Sum.f kj3 y105).bind fun t146 => ((topiaristref20_Sum.f kj3 l0).bind fun t147 => (if t146 = t147 then ((bytes_Seal.f kj3 y105).bind fun t148 => ((topiaristref20_Seal.f kj3 l0).bind fun t151 => ((topiaristkeep_Bytes.f t148 t151).bind fun t154 => (if t154 = true then ((topiaristkeep_Bytes.f t124 t128).bind fun t155 => (if t155 = true then (if t125 = t129 then ((topiaristkeep_Bytes.f y105 l0).bind fun t156 => (if t156 = true then ((topiaristlaw20_wakes.f kj3).bind fun t157 => (topiaristlaw20_BytesTell.j1 kj3 t157)) else (topiaristlaw20_BytesTell.j1 kj3 false))) else (topiaristlaw20_BytesTell.j1 kj3 false)) else (topiaristlaw20_BytesTell.j1 kj3 false))) else (topiaristlaw20_BytesTell.j1 kj3 false))))) else (topiaristlaw20_BytesTell.j1 kj3 false)))) = some r := by rw [if_pos rfl] at H; exact H
                                clear H
                                have H := H1
                                clear H1
                                replace H := Option.bind_eq_some_iff.mp H
                                obtain ⟨t146, A480, H⟩ := H
                                replace H : ((topiaristref20_Sum.f kj3 l0).bind fun t147 => (if t146 = t147 then ((bytes_Seal.f kj3 y105).bind fun t148 => ((topiaristref20_Seal.f kj3 l0).bind fun t151 => ((topiaristkeep_Bytes.f t148 t151).bind fun t154 => (if t154 = true then ((topiaristkeep_Bytes.f t124 t128).bind fun t155 => (if t155 = true then (if t125 = t129 then ((topiaristkeep_Bytes.f y105 l0).bind fun t156 => (if t156 = true then ((topiaristlaw20_wakes.f kj3).bind fun t157 => (topiaristlaw20_BytesTell.j1 kj3 t157)) else (topiaristlaw20_BytesTell.j1 kj3 false))) else (topiaristlaw20_BytesTell.j1 kj3 false)) else (topiaristlaw20_BytesTell.j1 kj3 false))) else (topiaristlaw20_BytesTell.j1 kj3 false))))) else (topiaristlaw20_BytesTell.j1 kj3 false))) = some r := H
                                have A48 := Aside0.mk A480
                                clear A480
                                replace H := Option.bind_eq_some_iff.mp H
                                obtain ⟨t147, A490, H⟩ := H
                                replace H : (if t146 = t147 then ((bytes_Seal.f kj3 y105).bind fun t148 => ((topiaristref20_Seal.f kj3 l0).bind fun t151 => ((topiaristkeep_Bytes.f t148 t151).bind fun t154 => (if t154 = true then ((topiaristkeep_Bytes.f t124 t128).bind fun t155 => (if t155 = true then (if t125 = t129 then ((topiaristkeep_Bytes.f y105 l0).bind fun t156 => (if t156 = true then ((topiaristlaw20_wakes.f kj3).bind fun t157 => (topiaristlaw20_BytesTell.j1 kj3 t157)) else (topiaristlaw20_BytesTell.j1 kj3 false))) else (topiaristlaw20_BytesTell.j1 kj3 false)) else (topiaristlaw20_BytesTell.j1 kj3 false))) else (topiaristlaw20_BytesTell.j1 kj3 false))))) else (topiaristlaw20_BytesTell.j1 kj3 false)) = some r := H
                                have A49 := Aside0.mk A490
                                clear A490
                                by_cases c50 : t146 = t147
                                · rw [if_pos c50] at H
                                  have c50b0 : (t146 == t147) = true := beq_iff_eq.mpr c50
                                  have c50b1 : (t146 != t147) = false := bne_eq_false_iff_eq.mpr c50
                                  clear c50
                                  replace H := Option.bind_eq_some_iff.mp H
                                  obtain ⟨t148, A510, H⟩ := H
                                  replace H : ((topiaristref20_Seal.f kj3 l0).bind fun t151 => ((topiaristkeep_Bytes.f t148 t151).bind fun t154 => (if t154 = true then ((topiaristkeep_Bytes.f t124 t128).bind fun t155 => (if t155 = true then (if t125 = t129 then ((topiaristkeep_Bytes.f y105 l0).bind fun t156 => (if t156 = true then ((topiaristlaw20_wakes.f kj3).bind fun t157 => (topiaristlaw20_BytesTell.j1 kj3 t157)) else (topiaristlaw20_BytesTell.j1 kj3 false))) else (topiaristlaw20_BytesTell.j1 kj3 false)) else (topiaristlaw20_BytesTell.j1 kj3 false))) else (topiaristlaw20_BytesTell.j1 kj3 false)))) = some r := H
                                  have A51 := Aside0.mk A510
                                  clear A510
                                  replace H := Option.bind_eq_some_iff.mp H
                                  obtain ⟨t151, A520, H⟩ := H
                                  replace H : ((topiaristkeep_Bytes.f t148 t151).bind fun t154 => (if t154 = true then ((topiaristkeep_Bytes.f t124 t128).bind fun t155 => (if t155 = true then (if t125 = t129 then ((topiaristkeep_Bytes.f y105 l0).bind fun t156 => (if t156 = true then ((topiaristlaw20_wakes.f kj3).bind fun t157 => (topiaristlaw20_BytesTell.j1 kj3 t157)) else (topiaristlaw20_BytesTell.j1 kj3 false))) else (topiaristlaw20_BytesTell.j1 kj3 false)) else (topiaristlaw20_BytesTell.j1 kj3 false))) else (topiaristlaw20_BytesTell.j1 kj3 false))) = some r := H
                                  have A52 := Aside0.mk A520
                                  clear A520
                                  replace H := Option.bind_eq_some_iff.mp H
                                  obtain ⟨t154, A530, H⟩ := H
                                  replace H : (if t154 = true then ((topiaristkeep_Bytes.f t124 t128).bind fun t155 => (if t155 = true then (if t125 = t129 then ((topiaristkeep_Bytes.f y105 l0).bind fun t156 => (if t156 = true then ((topiaristlaw20_wakes.f kj3).bind fun t157 => (topiaristlaw20_BytesTell.j1 kj3 t157)) else (topiaristlaw20_BytesTell.j1 kj3 false))) else (topiaristlaw20_BytesTell.j1 kj3 false)) else (topiaristlaw20_BytesTell.j1 kj3 false))) else (topiaristlaw20_BytesTell.j1 kj3 false)) = some r := H
                                  have A53 := Aside0.mk A530
                                  clear A530
                                  by_cases c54 : t154 = true
                                  · subst c54
                                    have H1 : ((topiaristkeep_Bytes.f t124 t128).bind fun t155 => (if t155 = true then (if t125 = t129 then ((topiaristkeep_Bytes.f y105 l0).bind fun t156 => (if t156 = true then ((topiaristlaw20_wakes.f kj3).bind fun t157 => (topiaristlaw20_BytesTell.j1 kj3 t157)) else (topiaristlaw20_BytesTell.j1 kj3 false))) else (topiaristlaw20_BytesTell.j1 kj3 false)) else (topiaristlaw20_BytesTell.j1 kj3 false))) = some r := by rw [if_pos rfl] at H; exact H
                                    clear H
                                    have H := H1
                                    clear H1
                                    replace H := Option.bind_eq_some_iff.mp H
                                    obtain ⟨t155, A550, H⟩ := H
                                    replace H : (if t155 = true then (if t125 = t129 then ((topiaristkeep_Bytes.f y105 l0).bind fun t156 => (if t156 = true then ((topiaristlaw20_wakes.f kj3).bind fun t157 => (topiaristlaw20_BytesTell.j1 kj3 t157)) else (topiaristlaw20_BytesTell.j1 kj3 false))) else (topiaristlaw20_BytesTell.j1 kj3 false)) else (topiaristlaw20_BytesTell.j1 kj3 false)) = some r := H
                                    have A55 := Aside0.mk A550
                                    clear A550
                                    by_cases c56 : t155 = true
                                    · subst c56
                                      have H1 : (if t125 = t129 then ((topiaristkeep_Bytes.f y105 l0).bind fun t156 => (if t156 = true then ((topiaristlaw20_wakes.f kj3).bind fun t157 => (topiaristlaw20_BytesTell.j1 kj3 t157)) else (topiaristlaw20_BytesTell.j1 kj3 false))) else (topiaristlaw20_BytesTell.j1 kj3 false)) = some r := by rw [if_pos rfl] at H; exact H
                                      clear H
                                      have H := H1
                                      clear H1
                                      by_cases c57 : t125 = t129
                                      · rw [if_pos c57] at H
                                        have c57b0 : (t125 == t129) = true := beq_iff_eq.mpr c57
                                        have c57b1 : (t125 != t129) = false := bne_eq_false_iff_eq.mpr c57
                                        clear c57
                                        replace H := Option.bind_eq_some_iff.mp H
                                        obtain ⟨t156, A580, H⟩ := H
                                        replace H : (if t156 = true then ((topiaristlaw20_wakes.f kj3).bind fun t157 => (topiaristlaw20_BytesTell.j1 kj3 t157)) else (topiaristlaw20_BytesTell.j1 kj3 false)) = some r := H
                                        have A58 := Aside0.mk A580
                                        clear A580
                                        by_cases c59 : t156 = true
                                        · subst c59
                                          have H1 : ((topiaristlaw20_wakes.f kj3).bind fun t157 => (topiaristlaw20_BytesTell.j1 kj3 t157)) = some r := by rw [if_pos rfl] at H; exact H
                                          clear H
                                          have H := H1
                                          clear H1
                                          replace H := Option.bind_eq_some_iff.mp H
                                          obtain ⟨t157, A600, H⟩ := H
                                          replace H : (topiaristlaw20_BytesTell.j1 kj3 t157) = some r := H
                                          have A60 := Aside0.mk A600
                                          clear A600
                                          have H' := Aside0.mk H
                                          clear H
                                          simp only [List.append]
                                          go_wp2_with (first | ((with_reducible refine gate_callee (f := 15) rfl ?_); refine goesL_ (some 60) rfl rfl Try.func15 (by kernel_rfl) rfl #[.slice Ao20 y105.length co20, .int .i64 a1] rfl (by (try simp only [List.map_toArray, List.map_cons, List.map_nil]); first | done | rfl | (simp only [List.length_drop, List.length_take]; rfl)) ?_; (with_reducible refine (bytes_Num.calls kj3 _ _ y105 a1 t132 _ ?side1 ?side2 A32.out).mono ?_); (case side1 => repeat (first | exact (Kd.R_reads' HO107.out).2.2 | (with_reducible refine Kd.C_alloc ?_ _) | (with_reducible refine Kd.C_drewN ?_ _) | (with_reducible refine Kd.C_drew ?_))); (case side2 => exact (Kd.R_reads' HO107.out).2.1); rintro e w61 ⟨v133, rfl, ho0, hb⟩; refine ⟨_, rfl, ?_⟩; have n0_ := Aside0.mk (Kd.R_elder' (by (with_reducible repeat (first | apply Kd.R_alloc | apply Kd.R_drewN | apply Kd.R_drew)); exact HO107.out) (Kd.R_base ho0) hb); have n1_ := Aside0.mk (Kd.R_elder' (by (with_reducible repeat (first | apply Kd.R_alloc | apply Kd.R_drewN | apply Kd.R_drew)); exact HO127.out) (Kd.R_base ho0) hb); have n2_ := Aside0.mk (Kd.R_elder' (by (with_reducible repeat (first | apply Kd.R_alloc | apply Kd.R_drewN | apply Kd.R_drew)); exact HO131.out) (Kd.R_base ho0) hb); have n3_ := Aside0.mk (Kd.R_lower (Kd.R_new' (Kd.R_new' (Kd.R_new' ho0 (Kd.R_lt (by (with_reducible repeat (first | apply Kd.R_alloc | apply Kd.R_drewN | apply Kd.R_drew)); exact HO107.out))) (Kd.R_lt (by (with_reducible repeat (first | apply Kd.R_alloc | apply Kd.R_drewN | apply Kd.R_drew)); exact HO127.out))) (Kd.R_lt (by (with_reducible repeat (first | apply Kd.R_alloc | apply Kd.R_drewN | apply Kd.R_drew)); exact HO131.out))) (below_size (by repeat (first | (with_reducible first | exact HB.out | apply below_alloc | apply pw_below_drewN | apply below_drew1 | refine below_set ?_ GE115.out | refine below_set ?_ GE123.out) | exact HB.out)))); have n4_ := Aside0.mk (blk_below (g := gb115) (o := .cells #[.int .i64 t111, .int .i64 t112, .string t113, .bool true] 28 (0, 0)) (by (with_reducible repeat (first | refine blk_drewN ?_ _ | refine blk_drew ?_ | refine blk_alloc ?_ _)); exact BK115.out) hb); have n5_ := Aside0.mk (blk_below (g := gb123) (o := .cells #[.int .i64 t119, .int .i64 t120, .string t121, .bool true] 28 (0, 0)) (by (with_reducible repeat (first | refine blk_drewN ?_ _ | refine blk_drew ?_ | refine blk_alloc ?_ _)); exact BK123.out) hb); have n6_ := Aside0.mk (below_step (by repeat (first | (with_reducible first | exact HB.out | apply below_alloc | apply pw_below_drewN | apply below_drew1 | refine below_set ?_ GE115.out | refine below_set ?_ GE123.out) | exact HB.out)) hb); clear HO107; clear HO127; clear HO131; clear BK115; clear BK123; clear HB; have HO107 := n0_; have HO127 := n1_; have HO131 := n2_; have HO134 := n3_; have BK115 := n4_; have BK123 := n5_; have HB := n6_; clear n0_ n1_ n2_ n3_ n4_ n5_ n6_; (try clear hb); (try clear hb2); (try clear hk); (try clear hi); (try clear ho0)) | ((with_reducible refine gate_callee (f := 16) rfl ?_); refine goesL_ (some 63) rfl rfl Try.func16 (by kernel_rfl) rfl #[.slice A0 l0.length c0, .int .i64 a1] rfl (by (try simp only [List.map_toArray, List.map_cons, List.map_nil]); first | done | rfl | (simp only [List.length_drop, List.length_take]; rfl)) ?_; (with_reducible refine (topiaristref20_Num.calls kj3 _ _ l0 a1 t135 _ ?side1 ?side2 A33.out).mono ?_); (case side1 => repeat (first | exact (Kd.C_below HR0.out HB.out) | (with_reducible refine Kd.C_alloc ?_ _) | (with_reducible refine Kd.C_drewN ?_ _) | (with_reducible refine Kd.C_drew ?_))); (case side2 => exact HC0.out); rintro e w62 ⟨v136, rfl, ho0, hb⟩; refine ⟨_, rfl, ?_⟩; have n0_ := Aside0.mk (Kd.R_elder' (by (with_reducible repeat (first | apply Kd.R_alloc | apply Kd.R_drewN | apply Kd.R_drew)); exact HO107.out) (Kd.R_base ho0) hb); have n1_ := Aside0.mk (Kd.R_elder' (by (with_reducible repeat (first | apply Kd.R_alloc | apply Kd.R_drewN | apply Kd.R_drew)); exact HO127.out) (Kd.R_base ho0) hb); have n2_ := Aside0.mk (Kd.R_elder' (by (with_reducible repeat (first | apply Kd.R_alloc | apply Kd.R_drewN | apply Kd.R_drew)); exact HO131.out) (Kd.R_base ho0) hb); have n3_ := Aside0.mk (Kd.R_elder' (by (with_reducible repeat (first | apply Kd.R_alloc | apply Kd.R_drewN | apply Kd.R_drew)); exact HO134.out) (Kd.R_base ho0) hb); have n4_ := Aside0.mk (Kd.R_lower (Kd.R_new' (Kd.R_new' (Kd.R_new' (Kd.R_new' ho0 (Kd.R_lt (by (with_reducible repeat (first | apply Kd.R_alloc | apply Kd.R_drewN | apply Kd.R_drew)); exact HO107.out))) (Kd.R_lt (by (with_reducible repeat (first | apply Kd.R_alloc | apply Kd.R_drewN | apply Kd.R_drew)); exact HO127.out))) (Kd.R_lt (by (with_reducible repeat (first | apply Kd.R_alloc | apply Kd.R_drewN | apply Kd.R_drew)); exact HO131.out))) (Kd.R_lt (by (with_reducible repeat (first | apply Kd.R_alloc | apply Kd.R_drewN | apply Kd.R_drew)); exact HO134.out))) (below_size (by repeat (first | (with_reducible first | exact HB.out | apply below_alloc | apply pw_below_drewN | apply below_drew1 | refine below_set ?_ GE115.out | refine below_set ?_ GE123.out) | exact HB.out)))); have n5_ := Aside0.mk (blk_below (g := gb115) (o := .cells #[.int .i64 t111, .int .i64 t112, .string t113, .bool true] 28 (0, 0)) (by (with_reducible repeat (first | refine blk_drewN ?_ _ | refine blk_drew ?_ | refine blk_alloc ?_ _)); exact BK115.out) hb); have n6_ := Aside0.mk (blk_below (g := gb123) (o := .cells #[.int .i64 t119, .int .i64 t120, .string t121, .bool true] 28 (0, 0)) (by (with_reducible repeat (first | refine blk_drewN ?_ _ | refine blk_drew ?_ | refine blk_alloc ?_ _)); exact BK123.out) hb); have n7_ := Aside0.mk (below_step (by repeat (first | (with_reducible first | exact HB.out | apply below_alloc | apply pw_below_drewN | apply below_drew1 | refine below_set ?_ GE115.out | refine below_set ?_ GE123.out) | exact HB.out)) hb); clear HO107; clear HO127; clear HO131; clear HO134; clear BK115; clear BK123; clear HB; have HO107 := n0_; have HO127 := n1_; have HO131 := n2_; have HO134 := n3_; have HO137 := n4_; have BK115 := n5_; have BK123 := n6_; have HB := n7_; clear n0_ n1_ n2_ n3_ n4_ n5_ n6_ n7_; (try clear hb); (try clear hb2); (try clear hk); (try clear hi); (try clear ho0); obtain ⟨Ao63, co63, eo63⟩ := Kd.R_slice HO134.out; subst eo63; obtain ⟨Ao64, co64, eo64⟩ := Kd.R_slice HO137.out; subst eo64) | ((with_reducible refine gate_callee (f := 14) rfl ?_); refine goesL_ (some 64) rfl rfl Try.func14 (by kernel_rfl) rfl #[.slice Ao63 t132.length co63, .slice Ao64 t135.length co64] rfl (by (try simp only [List.map_toArray, List.map_cons, List.map_nil]); first | done | rfl | (simp only [List.length_drop, List.length_take]; rfl)) ?_; (with_reducible refine (topiaristkeep_Bytes.calls _ _ t132 _ _ t135 true _ ?side1 ?side2 ?side3 ?side4 A34.out).mono ?_); (case side1 => repeat (first | exact (Kd.R_reads' HO134.out).2.2 | (with_reducible refine Kd.C_alloc ?_ _) | (with_reducible refine Kd.C_drewN ?_ _) | (with_reducible refine Kd.C_drew ?_))); (case side2 => exact (Kd.R_reads' HO134.out).2.1); (case side3 => repeat (first | exact (Kd.R_reads' HO137.out).2.2 | (with_reducible refine Kd.C_alloc ?_ _) | (with_reducible refine Kd.C_drewN ?_ _) | (with_reducible refine Kd.C_drew ?_))); (case side4 => exact (Kd.R_reads' HO137.out).2.1); rintro e w' ⟨rfl, ⟨nd, rfl⟩⟩; refine ⟨_, rfl, ?_⟩) | (go_at_call 17; (with_reducible refine (bytes_Text.calls kj3 _ _ y105 a2 t139 _ ?side1 ?side2 A36.out).mono ?_); (case side1 => repeat (first | exact (Kd.R_reads' HO107.out).2.2 | (with_reducible refine Kd.C_alloc ?_ _) | (with_reducible refine Kd.C_drewN ?_ _) | (with_reducible refine Kd.C_drew ?_))); (case side2 => exact (Kd.R_reads' HO107.out).2.1); rintro e w65 ⟨v140, rfl, ho0, hb⟩; have n0_ := Aside0.mk (Kd.R_elder' (by (with_reducible repeat (first | apply Kd.R_alloc | apply Kd.R_drewN | apply Kd.R_drew)); exact HO107.out) (Kd.R_base ho0) hb); have n1_ := Aside0.mk (Kd.R_elder' (by (with_reducible repeat (first | apply Kd.R_alloc | apply Kd.R_drewN | apply Kd.R_drew)); exact HO127.out) (Kd.R_base ho0) hb); have n2_ := Aside0.mk (Kd.R_elder' (by (with_reducible repeat (first | apply Kd.R_alloc | apply Kd.R_drewN | apply Kd.R_drew)); exact HO131.out) (Kd.R_base ho0) hb); have n3_ := Aside0.mk (Kd.R_elder' (by (with_reducible repeat (first | apply Kd.R_alloc | apply Kd.R_drewN | apply Kd.R_drew)); exact HO134.out) (Kd.R_base ho0) hb); have n4_ := Aside0.mk (Kd.R_elder' (by (with_reducible repeat (first | apply Kd.R_alloc | apply Kd.R_drewN | apply Kd.R_drew)); exact HO137.out) (Kd.R_base ho0) hb); have n5_ := Aside0.mk (Kd.R_lower (Kd.R_new' (Kd.R_new' (Kd.R_new' (Kd.R_new' (Kd.R_new' ho0 (Kd.R_lt (by (with_reducible repeat (first | apply Kd.R_alloc | apply Kd.R_drewN | apply Kd.R_drew)); exact HO107.out))) (Kd.R_lt (by (with_reducible repeat (first | apply Kd.R_alloc | apply Kd.R_drewN | apply Kd.R_drew)); exact HO127.out))) (Kd.R_lt (by (with_reducible repeat (first | apply Kd.R_alloc | apply Kd.R_drewN | apply Kd.R_drew)); exact HO131.out))) (Kd.R_lt (by (with_reducible repeat (first | apply Kd.R_alloc | apply Kd.R_drewN | apply Kd.R_drew)); exact HO134.out))) (Kd.R_lt (by (with_reducible repeat (first | apply Kd.R_alloc | apply Kd.R_drewN | apply Kd.R_drew)); exact HO137.out))) (below_size (by repeat (first | (with_reducible first | exact HB.out | apply below_alloc | apply pw_below_drewN | apply below_drew1 | refine below_set ?_ GE115.out | refine below_set ?_ GE123.out) | exact HB.out)))); have n6_ := Aside0.mk (blk_below (g := gb115) (o := .cells #[.int .i64 t111, .int .i64 t112, .string t113, .bool true] 28 (0, 0)) (by (with_reducible repeat (first | refine blk_drewN ?_ _ | refine blk_drew ?_ | refine blk_alloc ?_ _)); exact BK115.out) hb); have n7_ := Aside0.mk (blk_below (g := gb123) (o := .cells #[.int .i64 t119, .int .i64 t120, .string t121, .bool true] 28 (0, 0)) (by (with_reducible repeat (first | refine blk_drewN ?_ _ | refine blk_drew ?_ | refine blk_alloc ?_ _)); exact BK123.out) hb); have n8_ := Aside0.mk (below_step (by repeat (first | (with_reducible first | exact HB.out | apply below_alloc | apply pw_below_drewN | apply below_drew1 | refine below_set ?_ GE115.out | refine below_set ?_ GE123.out) | exact HB.out)) hb); clear HO107; clear HO127; clear HO131; clear HO134; clear HO137; clear BK115; clear BK123; clear HB; have HO107 := n0_; have HO127 := n1_; have HO131 := n2_; have HO134 := n3_; have HO137 := n4_; have HO141 := n5_; have BK115 := n6_; have BK123 := n7_; have HB := n8_; clear n0_ n1_ n2_ n3_ n4_ n5_ n6_ n7_ n8_; (try clear hb); (try clear hb2); (try clear hk); (try clear hi); (try clear ho0)) | (go_at_call 18; (with_reducible refine (topiaristref20_Text.calls kj3 _ _ l0 a2 t142 _ ?side1 ?side2 A37.out).mono ?_); (case side1 => repeat (first | exact (Kd.C_below HR0.out HB.out) | (with_reducible refine Kd.C_alloc ?_ _) | (with_reducible refine Kd.C_drewN ?_ _) | (with_reducible refine Kd.C_drew ?_))); (case side2 => exact HC0.out); rintro e w66 ⟨v143, rfl, ho0, hb⟩; have n0_ := Aside0.mk (Kd.R_elder' (by (with_reducible repeat (first | apply Kd.R_alloc | apply Kd.R_drewN | apply Kd.R_drew)); exact HO107.out) (Kd.R_base ho0) hb); have n1_ := Aside0.mk (Kd.R_elder' (by (with_reducible repeat (first | apply Kd.R_alloc | apply Kd.R_drewN | apply Kd.R_drew)); exact HO127.out) (Kd.R_base ho0) hb); have n2_ := Aside0.mk (Kd.R_elder' (by (with_reducible repeat (first | apply Kd.R_alloc | apply Kd.R_drewN | apply Kd.R_drew)); exact HO131.out) (Kd.R_base ho0) hb); have n3_ := Aside0.mk (Kd.R_elder' (by (with_reducible repeat (first | apply Kd.R_alloc | apply Kd.R_drewN | apply Kd.R_drew)); exact HO134.out) (Kd.R_base ho0) hb); have n4_ := Aside0.mk (Kd.R_elder' (by (with_reducible repeat (first | apply Kd.R_alloc | apply Kd.R_drewN | apply Kd.R_drew)); exact HO137.out) (Kd.R_base ho0) hb); have n5_ := Aside0.mk (Kd.R_elder' (by (with_reducible repeat (first | apply Kd.R_alloc | apply Kd.R_drewN | apply Kd.R_drew)); exact HO141.out) (Kd.R_base ho0) hb); have n6_ := Aside0.mk (Kd.R_lower (Kd.R_new' (Kd.R_new' (Kd.R_new' (Kd.R_new' (Kd.R_new' (Kd.R_new' ho0 (Kd.R_lt (by (with_reducible repeat (first | apply Kd.R_alloc | apply Kd.R_drewN | apply Kd.R_drew)); exact HO107.out))) (Kd.R_lt (by (with_reducible repeat (first | apply Kd.R_alloc | apply Kd.R_drewN | apply Kd.R_drew)); exact HO127.out))) (Kd.R_lt (by (with_reducible repeat (first | apply Kd.R_alloc | apply Kd.R_drewN | apply Kd.R_drew)); exact HO131.out))) (Kd.R_lt (by (with_reducible repeat (first | apply Kd.R_alloc | apply Kd.R_drewN | apply Kd.R_drew)); exact HO134.out))) (Kd.R_lt (by (with_reducible repeat (first | apply Kd.R_alloc | apply Kd.R_drewN | apply Kd.R_drew)); exact HO137.out))) (Kd.R_lt (by (with_reducible repeat (first | apply Kd.R_alloc | apply Kd.R_drewN | apply Kd.R_drew)); exact HO141.out))) (below_size (by repeat (first | (with_reducible first | exact HB.out | apply below_alloc | apply pw_below_drewN | apply below_drew1 | refine below_set ?_ GE115.out | refine below_set ?_ GE123.out) | exact HB.out)))); have n7_ := Aside0.mk (blk_below (g := gb115) (o := .cells #[.int .i64 t111, .int .i64 t112, .string t113, .bool true] 28 (0, 0)) (by (with_reducible repeat (first | refine blk_drewN ?_ _ | refine blk_drew ?_ | refine blk_alloc ?_ _)); exact BK115.out) hb); have n8_ := Aside0.mk (blk_below (g := gb123) (o := .cells #[.int .i64 t119, .int .i64 t120, .string t121, .bool true] 28 (0, 0)) (by (with_reducible repeat (first | refine blk_drewN ?_ _ | refine blk_drew ?_ | refine blk_alloc ?_ _)); exact BK123.out) hb); have n9_ := Aside0.mk (below_step (by repeat (first | (with_reducible first | exact HB.out | apply below_alloc | apply pw_below_drewN | apply below_drew1 | refine below_set ?_ GE115.out | refine below_set ?_ GE123.out) | exact HB.out)) hb); clear HO107; clear HO127; clear HO131; clear HO134; clear HO137; clear HO141; clear BK115; clear BK123; clear HB; have HO107 := n0_; have HO127 := n1_; have HO131 := n2_; have HO134 := n3_; have HO137 := n4_; have HO141 := n5_; have HO144 := n6_; have BK115 := n7_; have BK123 := n8_; have HB := n9_; clear n0_ n1_ n2_ n3_ n4_ n5_ n6_ n7_ n8_ n9_; (try clear hb); (try clear hb2); (try clear hk); (try clear hi); (try clear ho0); obtain ⟨Ao67, co67, eo67⟩ := Kd.R_slice HO141.out; subst eo67; obtain ⟨Ao68, co68, eo68⟩ := Kd.R_slice HO144.out; subst eo68) | (go_at_call 14; (with_reducible refine (topiaristkeep_Bytes.calls _ _ t139 _ _ t142 true _ ?side1 ?side2 ?side3 ?side4 A38.out).mono ?_); (case side1 => repeat (first | exact (Kd.R_reads' HO141.out).2.2 | (with_reducible refine Kd.C_alloc ?_ _) | (with_reducible refine Kd.C_drewN ?_ _) | (with_reducible refine Kd.C_drew ?_))); (case side2 => exact (Kd.R_reads' HO141.out).2.1); (case side3 => repeat (first | exact (Kd.R_reads' HO144.out).2.2 | (with_reducible refine Kd.C_alloc ?_ _) | (with_reducible refine Kd.C_drewN ?_ _) | (with_reducible refine Kd.C_drew ?_))); (case side4 => exact (Kd.R_reads' HO144.out).2.1); rintro e w' ⟨rfl, ⟨nd, rfl⟩⟩; have hnb69 := NB115_123.out; have hnc69 := NB123_115.out; have hcz70_0 : w66.cell? ⟨gb115, 0, none⟩ = some (.int .i64 t111) := (blk_cell BK115.out 0).trans rfl; have hcz70_1 : w66.cell? ⟨gb115, 1, none⟩ = some (.int .i64 t112) := (blk_cell BK115.out 1).trans rfl; have hcz70_2 : w66.cell? ⟨gb115, 2, none⟩ = some (.string t113) := (blk_cell BK115.out 2).trans rfl; have hcz70_3 : w66.cell? ⟨gb115, 3, none⟩ = some (.bool true) := (blk_cell BK115.out 3).trans rfl; have hfz70_0 := blk_frozen BK115.out 0; have hfz70_1 := blk_frozen BK115.out 1; have hfz70_2 := blk_frozen BK115.out 2; have hfz70_3 := blk_frozen BK115.out 3; have hcz71_0 : w66.cell? ⟨gb123, 0, none⟩ = some (.int .i64 t119) := (blk_cell BK123.out 0).trans rfl; have hcz71_1 : w66.cell? ⟨gb123, 1, none⟩ = some (.int .i64 t120) := (blk_cell BK123.out 1).trans rfl; have hcz71_2 : w66.cell? ⟨gb123, 2, none⟩ = some (.string t121) := (blk_cell BK123.out 2).trans rfl; have hcz71_3 : w66.cell? ⟨gb123, 3, none⟩ = some (.bool true) := (blk_cell BK123.out 3).trans rfl; have hfz71_0 := blk_frozen BK123.out 0; have hfz71_1 := blk_frozen BK123.out 1; have hfz71_2 := blk_frozen BK123.out 2; have hfz71_3 := blk_frozen BK123.out 3) | (go_at_call 19; (with_reducible refine (bytes_Sum.calls kj3 _ _ y105 t146 _ ?side1 ?side2 A48.out).mono ?_); (case side1 => repeat (first | exact (Kd.R_reads' HO107.out).2.2 | (with_reducible refine Kd.C_alloc ?_ _) | (with_reducible refine Kd.C_drewN ?_ _) | (with_reducible refine Kd.C_drew ?_))); (case side2 => exact (Kd.R_reads' HO107.out).2.1); rintro e w' ⟨rfl, ⟨nd, rfl⟩⟩) | (go_at_call 20; (with_reducible refine (topiaristref20_Sum.calls kj3 _ _ l0 t147 _ ?side1 ?side2 A49.out).mono ?_); (case side1 => repeat (first | exact (Kd.C_below HR0.out (by repeat (first | (with_reducible first | exact HB.out | apply below_alloc | apply pw_below_drewN | apply below_drew1 | refine below_set ?_ GE115.out | refine below_set ?_ GE123.out) | exact HB.out))) | (with_reducible refine Kd.C_alloc ?_ _) | (with_reducible refine Kd.C_drewN ?_ _) | (with_reducible refine Kd.C_drew ?_))); (case side2 => exact HC0.out); rintro e w' ⟨rfl, ⟨nd, rfl⟩⟩) | (go_at_call 21; (with_reducible refine (bytes_Seal.calls kj3 _ _ y105 t148 _ ?side1 ?side2 A51.out).mono ?_); (case side1 => repeat (first | exact (Kd.R_reads' HO107.out).2.2 | (with_reducible refine Kd.C_alloc ?_ _) | (with_reducible refine Kd.C_drewN ?_ _) | (with_reducible refine Kd.C_drew ?_))); (case side2 => exact (Kd.R_reads' HO107.out).2.1); rintro e w72 ⟨v149, rfl, ho0, hb⟩; have n0_ := Aside0.mk (Kd.R_elder' (by (with_reducible repeat (first | apply Kd.R_alloc | apply Kd.R_drewN | apply Kd.R_drew)); exact HO107.out) (Kd.R_base ho0) hb); have n1_ := Aside0.mk (Kd.R_elder' (by (with_reducible repeat (first | apply Kd.R_alloc | apply Kd.R_drewN | apply Kd.R_drew)); exact HO127.out) (Kd.R_base ho0) hb); have n2_ := Aside0.mk (Kd.R_elder' (by (with_reducible repeat (first | apply Kd.R_alloc | apply Kd.R_drewN | apply Kd.R_drew)); exact HO131.out) (Kd.R_base ho0) hb); have n3_ := Aside0.mk (Kd.R_elder' (by (with_reducible repeat (first | apply Kd.R_alloc | apply Kd.R_drewN | apply Kd.R_drew)); exact HO134.out) (Kd.R_base ho0) hb); have n4_ := Aside0.mk (Kd.R_elder' (by (with_reducible repeat (first | apply Kd.R_alloc | apply Kd.R_drewN | apply Kd.R_drew)); exact HO137.out) (Kd.R_base ho0) hb); have n5_ := Aside0.mk (Kd.R_elder' (by (with_reducible repeat (first | apply Kd.R_alloc | apply Kd.R_drewN | apply Kd.R_drew)); exact HO141.out) (Kd.R_base ho0) hb); have n6_ := Aside0.mk (Kd.R_elder' (by (with_reducible repeat (first | apply Kd.R_alloc | apply Kd.R_drewN | apply Kd.R_drew)); exact HO144.out) (Kd.R_base ho0) hb); have n7_ := Aside0.mk (Kd.R_lower (Kd.R_new' (Kd.R_new' (Kd.R_new' (Kd.R_new' (Kd.R_new' (Kd.R_new' (Kd.R_new' ho0 (Kd.R_lt (by (with_reducible repeat (first | apply Kd.R_alloc | apply Kd.R_drewN | apply Kd.R_drew)); exact HO107.out))) (Kd.R_lt (by (with_reducible repeat (first | apply Kd.R_alloc | apply Kd.R_drewN | apply Kd.R_drew)); exact HO127.out))) (Kd.R_lt (by (with_reducible repeat (first | apply Kd.R_alloc | apply Kd.R_drewN | apply Kd.R_drew)); exact HO131.out))) (Kd.R_lt (by (with_reducible repeat (first | apply Kd.R_alloc | apply Kd.R_drewN | apply Kd.R_drew)); exact HO134.out))) (Kd.R_lt (by (with_reducible repeat (first | apply Kd.R_alloc | apply Kd.R_drewN | apply Kd.R_drew)); exact HO137.out))) (Kd.R_lt (by (with_reducible repeat (first | apply Kd.R_alloc | apply Kd.R_drewN | apply Kd.R_drew)); exact HO141.out))) (Kd.R_lt (by (with_reducible repeat (first | apply Kd.R_alloc | apply Kd.R_drewN | apply Kd.R_drew)); exact HO144.out))) (below_size (by repeat (first | (with_reducible first | exact HB.out | apply below_alloc | apply pw_below_drewN | apply below_drew1 | refine below_set ?_ GE115.out | refine below_set ?_ GE123.out) | exact HB.out)))); have n8_ := Aside0.mk (blk_below (g := gb115) (o := .cells #[.int .i64 t111, .int .i64 t112, .string t113, .bool true] 28 (0, 0)) (by (with_reducible repeat (first | refine blk_drewN ?_ _ | refine blk_drew ?_ | refine blk_alloc ?_ _)); exact BK115.out) hb); have n9_ := Aside0.mk (blk_below (g := gb123) (o := .cells #[.int .i64 t119, .int .i64 t120, .string t121, .bool true] 28 (0, 0)) (by (with_reducible repeat (first | refine blk_drewN ?_ _ | refine blk_drew ?_ | refine blk_alloc ?_ _)); exact BK123.out) hb); have n10_ := Aside0.mk (below_step (by repeat (first | (with_reducible first | exact HB.out | apply below_alloc | apply pw_below_drewN | apply below_drew1 | refine below_set ?_ GE115.out | refine below_set ?_ GE123.out) | exact HB.out)) hb); clear HO107; clear HO127; clear HO131; clear HO134; clear HO137; clear HO141; clear HO144; clear BK115; clear BK123; clear HB; have HO107 := n0_; have HO127 := n1_; have HO131 := n2_; have HO134 := n3_; have HO137 := n4_; have HO141 := n5_; have HO144 := n6_; have HO150 := n7_; have BK115 := n8_; have BK123 := n9_; have HB := n10_; clear n0_ n1_ n2_ n3_ n4_ n5_ n6_ n7_ n8_ n9_ n10_; (try clear hb); (try clear hb2); (try clear hk); (try clear hi); (try clear ho0)) | (go_at_call 22; (with_reducible refine (topiaristref20_Seal.calls kj3 _ _ l0 t151 _ ?side1 ?side2 A52.out).mono ?_); (case side1 => repeat (first | exact (Kd.C_below HR0.out HB.out) | (with_reducible refine Kd.C_alloc ?_ _) | (with_reducible refine Kd.C_drewN ?_ _) | (with_reducible refine Kd.C_drew ?_))); (case side2 => exact HC0.out); rintro e w73 ⟨v152, rfl, ho0, hb⟩; have n0_ := Aside0.mk (Kd.R_elder' (by (with_reducible repeat (first | apply Kd.R_alloc | apply Kd.R_drewN | apply Kd.R_drew)); exact HO107.out) (Kd.R_base ho0) hb); have n1_ := Aside0.mk (Kd.R_elder' (by (with_reducible repeat (first | apply Kd.R_alloc | apply Kd.R_drewN | apply Kd.R_drew)); exact HO127.out) (Kd.R_base ho0) hb); have n2_ := Aside0.mk (Kd.R_elder' (by (with_reducible repeat (first | apply Kd.R_alloc | apply Kd.R_drewN | apply Kd.R_drew)); exact HO131.out) (Kd.R_base ho0) hb); have n3_ := Aside0.mk (Kd.R_elder' (by (with_reducible repeat (first | apply Kd.R_alloc | apply Kd.R_drewN | apply Kd.R_drew)); exact HO134.out) (Kd.R_base ho0) hb); have n4_ := Aside0.mk (Kd.R_elder' (by (with_reducible repeat (first | apply Kd.R_alloc | apply Kd.R_drewN | apply Kd.R_drew)); exact HO137.out) (Kd.R_base ho0) hb); have n5_ := Aside0.mk (Kd.R_elder' (by (with_reducible repeat (first | apply Kd.R_alloc | apply Kd.R_drewN | apply Kd.R_drew)); exact HO141.out) (Kd.R_base ho0) hb); have n6_ := Aside0.mk (Kd.R_elder' (by (with_reducible repeat (first | apply Kd.R_alloc | apply Kd.R_drewN | apply Kd.R_drew)); exact HO144.out) (Kd.R_base ho0) hb); have n7_ := Aside0.mk (Kd.R_elder' (by (with_reducible repeat (first | apply Kd.R_alloc | apply Kd.R_drewN | apply Kd.R_drew)); exact HO150.out) (Kd.R_base ho0) hb); have n8_ := Aside0.mk (Kd.R_lower (Kd.R_new' (Kd.R_new' (Kd.R_new' (Kd.R_new' (Kd.R_new' (Kd.R_new' (Kd.R_new' (Kd.R_new' ho0 (Kd.R_lt (by (with_reducible repeat (first | apply Kd.R_alloc | apply Kd.R_drewN | apply Kd.R_drew)); exact HO107.out))) (Kd.R_lt (by (with_reducible repeat (first | apply Kd.R_alloc | apply Kd.R_drewN | apply Kd.R_drew)); exact HO127.out))) (Kd.R_lt (by (with_reducible repeat (first | apply Kd.R_alloc | apply Kd.R_drewN | apply Kd.R_drew)); exact HO131.out))) (Kd.R_lt (by (with_reducible repeat (first | apply Kd.R_alloc | apply Kd.R_drewN | apply Kd.R_drew)); exact HO134.out))) (Kd.R_lt (by (with_reducible repeat (first | apply Kd.R_alloc | apply Kd.R_drewN | apply Kd.R_drew)); exact HO137.out))) (Kd.R_lt (by (with_reducible repeat (first | apply Kd.R_alloc | apply Kd.R_drewN | apply Kd.R_drew)); exact HO141.out))) (Kd.R_lt (by (with_reducible repeat (first | apply Kd.R_alloc | apply Kd.R_drewN | apply Kd.R_drew)); exact HO144.out))) (Kd.R_lt (by (with_reducible repeat (first | apply Kd.R_alloc | apply Kd.R_drewN | apply Kd.R_drew)); exact HO150.out))) (below_size (by repeat (first | (with_reducible first | exact HB.out | apply below_alloc | apply pw_below_drewN | apply below_drew1 | refine below_set ?_ GE115.out | refine below_set ?_ GE123.out) | exact HB.out)))); have n9_ := Aside0.mk (blk_below (g := gb115) (o := .cells #[.int .i64 t111, .int .i64 t112, .string t113, .bool true] 28 (0, 0)) (by (with_reducible repeat (first | refine blk_drewN ?_ _ | refine blk_drew ?_ | refine blk_alloc ?_ _)); exact BK115.out) hb); have n10_ := Aside0.mk (blk_below (g := gb123) (o := .cells #[.int .i64 t119, .int .i64 t120, .string t121, .bool true] 28 (0, 0)) (by (with_reducible repeat (first | refine blk_drewN ?_ _ | refine blk_drew ?_ | refine blk_alloc ?_ _)); exact BK123.out) hb); have n11_ := Aside0.mk (below_step (by repeat (first | (with_reducible first | exact HB.out | apply below_alloc | apply pw_below_drewN | apply below_drew1 | refine below_set ?_ GE115.out | refine below_set ?_ GE123.out) | exact HB.out)) hb); clear HO107; clear HO127; clear HO131; clear HO134; clear HO137; clear HO141; clear HO144; clear HO150; clear BK115; clear BK123; clear HB; have HO107 := n0_; have HO127 := n1_; have HO131 := n2_; have HO134 := n3_; have HO137 := n4_; have HO141 := n5_; have HO144 := n6_; have HO150 := n7_; have HO153 := n8_; have BK115 := n9_; have BK123 := n10_; have HB := n11_; clear n0_ n1_ n2_ n3_ n4_ n5_ n6_ n7_ n8_ n9_ n10_ n11_; (try clear hb); (try clear hb2); (try clear hk); (try clear hi); (try clear ho0); obtain ⟨Ao74, co74, eo74⟩ := Kd.R_slice HO150.out; subst eo74; obtain ⟨Ao75, co75, eo75⟩ := Kd.R_slice HO153.out; subst eo75) | (go_at_call 14; (with_reducible refine (topiaristkeep_Bytes.calls _ _ t148 _ _ t151 true _ ?side1 ?side2 ?side3 ?side4 A53.out).mono ?_); (case side1 => repeat (first | exact (Kd.R_reads' HO150.out).2.2 | (with_reducible refine Kd.C_alloc ?_ _) | (with_reducible refine Kd.C_drewN ?_ _) | (with_reducible refine Kd.C_drew ?_))); (case side2 => exact (Kd.R_reads' HO150.out).2.1); (case side3 => repeat (first | exact (Kd.R_reads' HO153.out).2.2 | (with_reducible refine Kd.C_alloc ?_ _) | (with_reducible refine Kd.C_drewN ?_ _) | (with_reducible refine Kd.C_drew ?_))); (case side4 => exact (Kd.R_reads' HO153.out).2.1); rintro e w' ⟨rfl, ⟨nd, rfl⟩⟩; obtain ⟨Ao76, co76, eo76⟩ := Kd.R_slice HO127.out; subst eo76; obtain ⟨Ao77, co77, eo77⟩ := Kd.R_slice HO131.out; subst eo77) | (go_at_call 14; (with_reducible refine (topiaristkeep_Bytes.calls _ _ t124 _ _ t128 true _ ?side1 ?side2 ?side3 ?side4 A55.out).mono ?_); (case side1 => repeat (first | exact (Kd.R_reads' HO127.out).2.2 | (with_reducible refine Kd.C_alloc ?_ _) | (with_reducible refine Kd.C_drewN ?_ _) | (with_reducible refine Kd.C_drew ?_))); (case side2 => exact (Kd.R_reads' HO127.out).2.1); (case side3 => repeat (first | exact (Kd.R_reads' HO131.out).2.2 | (with_reducible refine Kd.C_alloc ?_ _) | (with_reducible refine Kd.C_drewN ?_ _) | (with_reducible refine Kd.C_drew ?_))); (case side4 => exact (Kd.R_reads' HO131.out).2.1); rintro e w' ⟨rfl, ⟨nd, rfl⟩⟩) | (go_at_call 14; (with_reducible refine (topiaristkeep_Bytes.calls _ _ y105 _ _ l0 true _ ?side1 ?side2 ?side3 ?side4 A58.out).mono ?_); (case side1 => repeat (first | exact (Kd.R_reads' HO107.out).2.2 | (with_reducible refine Kd.C_alloc ?_ _) | (with_reducible refine Kd.C_drewN ?_ _) | (with_reducible refine Kd.C_drew ?_))); (case side2 => exact (Kd.R_reads' HO107.out).2.1); (case side3 => repeat (first | exact (Kd.C_below HR0.out (by repeat (first | (with_reducible first | exact HB.out | apply below_alloc | apply pw_below_drewN | apply below_drew1 | refine below_set ?_ GE115.out | refine below_set ?_ GE123.out) | exact HB.out))) | (with_reducible refine Kd.C_alloc ?_ _) | (with_reducible refine Kd.C_drewN ?_ _) | (with_reducible refine Kd.C_drew ?_))); (case side4 => exact HC0.out); rintro e w' ⟨rfl, ⟨nd, rfl⟩⟩) | (go_at_call 7; (with_reducible refine (topiaristlaw20_wakes.calls kj3  t157 _ A60.out).mono ?_); rintro e w78 ⟨rfl, hb⟩; have n0_ := Aside0.mk (Kd.R_below (by (with_reducible repeat (first | apply Kd.R_alloc | apply Kd.R_drewN | apply Kd.R_drew)); exact HO107.out) hb); have n1_ := Aside0.mk (Kd.R_below (by (with_reducible repeat (first | apply Kd.R_alloc | apply Kd.R_drewN | apply Kd.R_drew)); exact HO127.out) hb); have n2_ := Aside0.mk (Kd.R_below (by (with_reducible repeat (first | apply Kd.R_alloc | apply Kd.R_drewN | apply Kd.R_drew)); exact HO131.out) hb); have n3_ := Aside0.mk (Kd.R_below (by (with_reducible repeat (first | apply Kd.R_alloc | apply Kd.R_drewN | apply Kd.R_drew)); exact HO134.out) hb); have n4_ := Aside0.mk (Kd.R_below (by (with_reducible repeat (first | apply Kd.R_alloc | apply Kd.R_drewN | apply Kd.R_drew)); exact HO137.out) hb); have n5_ := Aside0.mk (Kd.R_below (by (with_reducible repeat (first | apply Kd.R_alloc | apply Kd.R_drewN | apply Kd.R_drew)); exact HO141.out) hb); have n6_ := Aside0.mk (Kd.R_below (by (with_reducible repeat (first | apply Kd.R_alloc | apply Kd.R_drewN | apply Kd.R_drew)); exact HO144.out) hb); have n7_ := Aside0.mk (Kd.R_below (by (with_reducible repeat (first | apply Kd.R_alloc | apply Kd.R_drewN | apply Kd.R_drew)); exact HO150.out) hb); have n8_ := Aside0.mk (Kd.R_below (by (with_reducible repeat (first | apply Kd.R_alloc | apply Kd.R_drewN | apply Kd.R_drew)); exact HO153.out) hb); have n9_ := Aside0.mk (blk_below (g := gb115) (o := .cells #[.int .i64 t111, .int .i64 t112, .string t113, .bool true] 28 (0, 0)) (by (with_reducible repeat (first | refine blk_drewN ?_ _ | refine blk_drew ?_ | refine blk_alloc ?_ _)); exact BK115.out) hb); have n10_ := Aside0.mk (blk_below (g := gb123) (o := .cells #[.int .i64 t119, .int .i64 t120, .string t121, .bool true] 28 (0, 0)) (by (with_reducible repeat (first | refine blk_drewN ?_ _ | refine blk_drew ?_ | refine blk_alloc ?_ _)); exact BK123.out) hb); have n11_ := Aside0.mk (below_step (by repeat (first | (with_reducible first | exact HB.out | apply below_alloc | apply pw_below_drewN | apply below_drew1 | refine below_set ?_ GE115.out | refine below_set ?_ GE123.out) | exact HB.out)) hb); clear HO107; clear HO127; clear HO131; clear HO134; clear HO137; clear HO141; clear HO144; clear HO150; clear HO153; clear BK115; clear BK123; clear HB; have HO107 := n0_; have HO127 := n1_; have HO131 := n2_; have HO134 := n3_; have HO137 := n4_; have HO141 := n5_; have HO144 := n6_; have HO150 := n7_; have HO153 := n8_; have BK115 := n9_; have BK123 := n10_; have HB := n11_; clear n0_ n1_ n2_ n3_ n4_ n5_ n6_ n7_ n8_ n9_ n10_ n11_; (try clear hb); (try clear hb2); (try clear hk); (try clear hi)))
                                          go_meet
                                          case rel => exact ⟨_, (t157), (by first | rfl | (simp; done) | (simp [*]; done)), H', ⟨by have := HJ3.out; first | omega | exact Nat.le_refl _⟩, ⟨by (with_reducible repeat (first | refine blk_drewN ?_ _ | refine blk_drew ?_ | refine blk_alloc ?_ _)); exact BK115.out⟩, ⟨by (with_reducible repeat (first | refine blk_drewN ?_ _ | refine blk_drew ?_ | refine blk_alloc ?_ _)); exact BK123.out⟩, ⟨by repeat (first | (with_reducible first | exact HB.out | apply below_alloc | apply pw_below_drewN | apply below_drew1 | refine below_set ?_ GE115.out | refine below_set ?_ GE123.out) | exact HB.out)⟩⟩
                                        · replace c59 := Bool.eq_false_iff.mpr c59
                                          subst c59
                                          have H1 : (topiaristlaw20_BytesTell.j1 kj3 false) = some r := by rw [if_neg (show ¬ (false = true) by decide)] at H; exact H
                                          clear H
                                          have H := H1
                                          clear H1
                                          exact absurd ((topiaristlaw20_BytesTell.j1_false _ _  H).symm.trans hrt.out) Bool.false_ne_true
                                      · rw [if_neg c57] at H
                                        have c57b0 : (t125 == t129) = false := beq_eq_false_iff_ne.mpr c57
                                        have c57b1 : (t125 != t129) = true := bne_iff_ne.mpr c57
                                        exact absurd ((topiaristlaw20_BytesTell.j1_false _ _  H).symm.trans hrt.out) Bool.false_ne_true
                                    · replace c56 := Bool.eq_false_iff.mpr c56
                                      subst c56
                                      have H1 : (topiaristlaw20_BytesTell.j1 kj3 false) = some r := by rw [if_neg (show ¬ (false = true) by decide)] at H; exact H
                                      clear H
                                      have H := H1
                                      clear H1
                                      exact absurd ((topiaristlaw20_BytesTell.j1_false _ _  H).symm.trans hrt.out) Bool.false_ne_true
                                  · replace c54 := Bool.eq_false_iff.mpr c54
                                    subst c54
                                    have H1 : (topiaristlaw20_BytesTell.j1 kj3 false) = some r := by rw [if_neg (show ¬ (false = true) by decide)] at H; exact H
                                    clear H
                                    have H := H1
                                    clear H1
                                    exact absurd ((topiaristlaw20_BytesTell.j1_false _ _  H).symm.trans hrt.out) Bool.false_ne_true
                                · rw [if_neg c50] at H
                                  have c50b0 : (t146 == t147) = false := beq_eq_false_iff_ne.mpr c50
                                  have c50b1 : (t146 != t147) = true := bne_iff_ne.mpr c50
                                  exact absurd ((topiaristlaw20_BytesTell.j1_false _ _  H).symm.trans hrt.out) Bool.false_ne_true
                              · replace c47 := Bool.eq_false_iff.mpr c47
                                subst c47
                                have H1 : (if t118 = 16 then ((bytes_Sum.f kj3 y105).bind fun t158 => ((topiaristref20_Sum.f kj3 l0).bind fun t159 => (if t158 = t159 then ((bytes_Seal.f kj3 y105).bind fun t160 => ((topiaristref20_Seal.f kj3 l0).bind fun t163 => ((topiaristkeep_Bytes.f t160 t163).bind fun t166 => (if t166 = true then ((topiaristkeep_Bytes.f t124 t128).bind fun t167 => (if t167 = true then (if t125 = t129 then ((topiaristkeep_Bytes.f y105 l0).bind fun t168 => (if t168 = true then ((topiaristlaw20_wakes.f kj3).bind fun t169 => (topiaristlaw20_BytesTell.j1 kj3 t169)) else (topiaristlaw20_BytesTell.j1 kj3 false))) else (topiaristlaw20_BytesTell.j1 kj3 false)) else (topiaristlaw20_BytesTell.j1 kj3 false))) else (topiaristlaw20_BytesTell.j1 kj3 false))))) else (topiaristlaw20_BytesTell.j1 kj3 false)))) else (topiaristlaw20_BytesTell.j1 kj3 false)) = some r := by rw [if_neg (show ¬ (false = true) by decide)] at H; exact H
                                clear H
                                have H := H1
                                clear H1
                                by_cases c156 : t118 = 16
                                · rw [if_pos c156] at H
                                  have c156b0 : (t118 == 16) = true := beq_iff_eq.mpr c156
                                  have c156b1 : (t118 != 16) = false := bne_eq_false_iff_eq.mpr c156
                                  clear c156
                                  replace H := Option.bind_eq_some_iff.mp H
                                  obtain ⟨t158, A1570, H⟩ := H
                                  replace H : ((topiaristref20_Sum.f kj3 l0).bind fun t159 => (if t158 = t159 then ((bytes_Seal.f kj3 y105).bind fun t160 => ((topiaristref20_Seal.f kj3 l0).bind fun t163 => ((topiaristkeep_Bytes.f t160 t163).bind fun t166 => (if t166 = true then ((topiaristkeep_Bytes.f t124 t128).bind fun t167 => (if t167 = true then (if t125 = t129 then ((topiaristkeep_Bytes.f y105 l0).bind fun t168 => (if t168 = true then ((topiaristlaw20_wakes.f kj3).bind fun t169 => (topiaristlaw20_BytesTell.j1 kj3 t169)) else (topiaristlaw20_BytesTell.j1 kj3 false))) else (topiaristlaw20_BytesTell.j1 kj3 false)) else (topiaristlaw20_BytesTell.j1 kj3 false))) else (topiaristlaw20_BytesTell.j1 kj3 false))))) else (topiaristlaw20_BytesTell.j1 kj3 false))) = some r := H
                                  have A157 := Aside0.mk A1570
                                  clear A1570
                                  replace H := Option.bind_eq_some_iff.mp H
                                  obtain ⟨t159, A1580, H⟩ := H
                                  replace H : (if t158 = t159 then ((bytes_Seal.f kj3 y105).bind fun t160 => ((topiaristref20_Seal.f kj3 l0).bind fun t163 => ((topiaristkeep_Bytes.f t160 t163).bind fun t166 => (if t166 = true then ((topiaristkeep_Bytes.f t124 t128).bind fun t167 => (if t167 = true then (if t125 = t129 then ((topiaristkeep_Bytes.f y105 l0).bind fun t168 => (if t168 = true then ((topiaristlaw20_wakes.f kj3).bind fun t169 => (topiaristlaw20_BytesTell.j1 kj3 t169)) else (topiaristlaw20_BytesTell.j1 kj3 false))) else (topiaristlaw20_BytesTell.j1 kj3 false)) else (topiaristlaw20_BytesTell.j1 kj3 false))) else (topiaristlaw20_BytesTell.j1 kj3 false))))) else (topiaristlaw20_BytesTell.j1 kj3 false)) = some r := H
                                  have A158 := Aside0.mk A1580
                                  clear A1580
                                  by_cases c159 : t158 = t159
                                  · rw [if_pos c159] at H
                                    have c159b0 : (t158 == t159) = true := beq_iff_eq.mpr c159
                                    have c159b1 : (t158 != t159) = false := bne_eq_false_iff_eq.mpr c159
                                    clear c159
                                    replace H := Option.bind_eq_some_iff.mp H
                                    obtain ⟨t160, A1600, H⟩ := H
                                    replace H : ((topiaristref20_Seal.f kj3 l0).bind fun t163 => ((topiaristkeep_Bytes.f t160 t163).bind fun t166 => (if t166 = true then ((topiaristkeep_Bytes.f t124 t128).bind fun t167 => (if t167 = true then (if t125 = t129 then ((topiaristkeep_Bytes.f y105 l0).bind fun t168 => (if t168 = true then ((topiaristlaw20_wakes.f kj3).bind fun t169 => (topiaristlaw20_BytesTell.j1 kj3 t169)) else (topiaristlaw20_BytesTell.j1 kj3 false))) else (topiaristlaw20_BytesTell.j1 kj3 false)) else (topiaristlaw20_BytesTell.j1 kj3 false))) else (topiaristlaw20_BytesTell.j1 kj3 false)))) = some r := H
                                    have A160 := Aside0.mk A1600
                                    clear A1600
                                    replace H := Option.bind_eq_some_iff.mp H
                                    obtain ⟨t163, A1610, H⟩ := H
                                    replace H : ((topiaristkeep_Bytes.f t160 t163).bind fun t166 => (if t166 = true then ((topiaristkeep_Bytes.f t124 t128).bind fun t167 => (if t167 = true then (if t125 = t129 then ((topiaristkeep_Bytes.f y105 l0).bind fun t168 => (if t168 = true then ((topiaristlaw20_wakes.f kj3).bind fun t169 => (topiaristlaw20_BytesTell.j1 kj3 t169)) else (topiaristlaw20_BytesTell.j1 kj3 false))) else (topiaristlaw20_BytesTell.j1 kj3 false)) else (topiaristlaw20_BytesTell.j1 kj3 false))) else (topiaristlaw20_BytesTell.j1 kj3 false))) = some r := H
                                    have A161 := Aside0.mk A1610
                                    clear A1610
                                    replace H := Option.bind_eq_some_iff.mp H
                                    obtain ⟨t166, A1620, H⟩ := H
                                    replace H : (if t166 = true then ((topiaristkeep_Bytes.f t124 t128).bind fun t167 => (if t167 = true then (if t125 = t129 then ((topiaristkeep_Bytes.f y105 l0).bind fun t168 => (if t168 = true then ((topiaristlaw20_wakes.f kj3).bind fun t169 => (topiaristlaw20_BytesTell.j1 kj3 t169)) else (topiaristlaw20_BytesTell.j1 kj3 false))) else (topiaristlaw20_BytesTell.j1 kj3 false)) else (topiaristlaw20_BytesTell.j1 kj3 false))) else (topiaristlaw20_BytesTell.j1 kj3 false)) = some r := H
                                    have A162 := Aside0.mk A1620
                                    clear A1620
                                    by_cases c163 : t166 = true
                                    · subst c163
                                      have H1 : ((topiaristkeep_Bytes.f t124 t128).bind fun t167 => (if t167 = true then (if t125 = t129 then ((topiaristkeep_Bytes.f y105 l0).bind fun t168 => (if t168 = true then ((topiaristlaw20_wakes.f kj3).bind fun t169 => (topiaristlaw20_BytesTell.j1 kj3 t169)) else (topiaristlaw20_BytesTell.j1 kj3 false))) else (topiaristlaw20_BytesTell.j1 kj3 false)) else (topiaristlaw20_BytesTell.j1 kj3 false))) = some r := by rw [if_pos rfl] at H; exact H
                                      clear H
                                      have H := H1
                                      clear H1
                                      replace H := Option.bind_eq_some_iff.mp H
                                      obtain ⟨t167, A1640, H⟩ := H
                                      replace H : (if t167 = true then (if t125 = t129 then ((topiaristkeep_Bytes.f y105 l0).bind fun t168 => (if t168 = true then ((topiaristlaw20_wakes.f kj3).bind fun t169 => (topiaristlaw20_BytesTell.j1 kj3 t169)) else (topiaristlaw20_BytesTell.j1 kj3 false))) else (topiaristlaw20_BytesTell.j1 kj3 false)) else (topiaristlaw20_BytesTell.j1 kj3 false)) = some r := H
                                      have A164 := Aside0.mk A1640
                                      clear A1640
                                      by_cases c165 : t167 = true
                                      · subst c165
                                        have H1 : (if t125 = t129 then ((topiaristkeep_Bytes.f y105 l0).bind fun t168 => (if t168 = true then ((topiaristlaw20_wakes.f kj3).bind fun t169 => (topiaristlaw20_BytesTell.j1 kj3 t169)) else (topiaristlaw20_BytesTell.j1 kj3 false))) else (topiaristlaw20_BytesTell.j1 kj3 false)) = some r := by rw [if_pos rfl] at H; exact H
                                        clear H
                                        have H := H1
                                        clear H1
                                        by_cases c166 : t125 = t129
                                        · rw [if_pos c166] at H
                                          have c166b0 : (t125 == t129) = true := beq_iff_eq.mpr c166
                                          have c166b1 : (t125 != t129) = false := bne_eq_false_iff_eq.mpr c166
                                          clear c166
                                          replace H := Option.bind_eq_some_iff.mp H
                                          obtain ⟨t168, A1670, H⟩ := H
                                          replace H : (if t168 = true then ((topiaristlaw20_wakes.f kj3).bind fun t169 => (topiaristlaw20_BytesTell.j1 kj3 t169)) else (topiaristlaw20_BytesTell.j1 kj3 false)) = some r := H
                                          have A167 := Aside0.mk A1670
                                          clear A1670
                                          by_cases c168 : t168 = true
                                          · subst c168
                                            have H1 : ((topiaristlaw20_wakes.f kj3).bind fun t169 => (topiaristlaw20_BytesTell.j1 kj3 t169)) = some r := by rw [if_pos rfl] at H; exact H
                                            clear H
                                            have H := H1
                                            clear H1
                                            replace H := Option.bind_eq_some_iff.mp H
                                            obtain ⟨t169, A1690, H⟩ := H
                                            replace H : (topiaristlaw20_BytesTell.j1 kj3 t169) = some r := H
                                            have A169 := Aside0.mk A1690
                                            clear A1690
                                            have H' := Aside0.mk H
                                            clear H
                                            simp only [List.append]
                                            go_wp2_with (first | ((with_reducible refine gate_callee (f := 15) rfl ?_); refine goesL_ (some 60) rfl rfl Try.func15 (by kernel_rfl) rfl #[.slice Ao20 y105.length co20, .int .i64 a1] rfl (by (try simp only [List.map_toArray, List.map_cons, List.map_nil]); first | done | rfl | (simp only [List.length_drop, List.length_take]; rfl)) ?_; (with_reducible refine (bytes_Num.calls kj3 _ _ y105 a1 t132 _ ?side1 ?side2 A32.out).mono ?_); (case side1 => repeat (first | exact (Kd.R_reads' HO107.out).2.2 | (with_reducible refine Kd.C_alloc ?_ _) | (with_reducible refine Kd.C_drewN ?_ _) | (with_reducible refine Kd.C_drew ?_))); (case side2 => exact (Kd.R_reads' HO107.out).2.1); rintro e w170 ⟨v133, rfl, ho0, hb⟩; refine ⟨_, rfl, ?_⟩; have n0_ := Aside0.mk (Kd.R_elder' (by (with_reducible repeat (first | apply Kd.R_alloc | apply Kd.R_drewN | apply Kd.R_drew)); exact HO107.out) (Kd.R_base ho0) hb); have n1_ := Aside0.mk (Kd.R_elder' (by (with_reducible repeat (first | apply Kd.R_alloc | apply Kd.R_drewN | apply Kd.R_drew)); exact HO127.out) (Kd.R_base ho0) hb); have n2_ := Aside0.mk (Kd.R_elder' (by (with_reducible repeat (first | apply Kd.R_alloc | apply Kd.R_drewN | apply Kd.R_drew)); exact HO131.out) (Kd.R_base ho0) hb); have n3_ := Aside0.mk (Kd.R_lower (Kd.R_new' (Kd.R_new' (Kd.R_new' ho0 (Kd.R_lt (by (with_reducible repeat (first | apply Kd.R_alloc | apply Kd.R_drewN | apply Kd.R_drew)); exact HO107.out))) (Kd.R_lt (by (with_reducible repeat (first | apply Kd.R_alloc | apply Kd.R_drewN | apply Kd.R_drew)); exact HO127.out))) (Kd.R_lt (by (with_reducible repeat (first | apply Kd.R_alloc | apply Kd.R_drewN | apply Kd.R_drew)); exact HO131.out))) (below_size (by repeat (first | (with_reducible first | exact HB.out | apply below_alloc | apply pw_below_drewN | apply below_drew1 | refine below_set ?_ GE115.out | refine below_set ?_ GE123.out) | exact HB.out)))); have n4_ := Aside0.mk (blk_below (g := gb115) (o := .cells #[.int .i64 t111, .int .i64 t112, .string t113, .bool true] 28 (0, 0)) (by (with_reducible repeat (first | refine blk_drewN ?_ _ | refine blk_drew ?_ | refine blk_alloc ?_ _)); exact BK115.out) hb); have n5_ := Aside0.mk (blk_below (g := gb123) (o := .cells #[.int .i64 t119, .int .i64 t120, .string t121, .bool false] 28 (0, 0)) (by (with_reducible repeat (first | refine blk_drewN ?_ _ | refine blk_drew ?_ | refine blk_alloc ?_ _)); exact BK123.out) hb); have n6_ := Aside0.mk (below_step (by repeat (first | (with_reducible first | exact HB.out | apply below_alloc | apply pw_below_drewN | apply below_drew1 | refine below_set ?_ GE115.out | refine below_set ?_ GE123.out) | exact HB.out)) hb); clear HO107; clear HO127; clear HO131; clear BK115; clear BK123; clear HB; have HO107 := n0_; have HO127 := n1_; have HO131 := n2_; have HO134 := n3_; have BK115 := n4_; have BK123 := n5_; have HB := n6_; clear n0_ n1_ n2_ n3_ n4_ n5_ n6_; (try clear hb); (try clear hb2); (try clear hk); (try clear hi); (try clear ho0)) | ((with_reducible refine gate_callee (f := 16) rfl ?_); refine goesL_ (some 63) rfl rfl Try.func16 (by kernel_rfl) rfl #[.slice A0 l0.length c0, .int .i64 a1] rfl (by (try simp only [List.map_toArray, List.map_cons, List.map_nil]); first | done | rfl | (simp only [List.length_drop, List.length_take]; rfl)) ?_; (with_reducible refine (topiaristref20_Num.calls kj3 _ _ l0 a1 t135 _ ?side1 ?side2 A33.out).mono ?_); (case side1 => repeat (first | exact (Kd.C_below HR0.out HB.out) | (with_reducible refine Kd.C_alloc ?_ _) | (with_reducible refine Kd.C_drewN ?_ _) | (with_reducible refine Kd.C_drew ?_))); (case side2 => exact HC0.out); rintro e w171 ⟨v136, rfl, ho0, hb⟩; refine ⟨_, rfl, ?_⟩; have n0_ := Aside0.mk (Kd.R_elder' (by (with_reducible repeat (first | apply Kd.R_alloc | apply Kd.R_drewN | apply Kd.R_drew)); exact HO107.out) (Kd.R_base ho0) hb); have n1_ := Aside0.mk (Kd.R_elder' (by (with_reducible repeat (first | apply Kd.R_alloc | apply Kd.R_drewN | apply Kd.R_drew)); exact HO127.out) (Kd.R_base ho0) hb); have n2_ := Aside0.mk (Kd.R_elder' (by (with_reducible repeat (first | apply Kd.R_alloc | apply Kd.R_drewN | apply Kd.R_drew)); exact HO131.out) (Kd.R_base ho0) hb); have n3_ := Aside0.mk (Kd.R_elder' (by (with_reducible repeat (first | apply Kd.R_alloc | apply Kd.R_drewN | apply Kd.R_drew)); exact HO134.out) (Kd.R_base ho0) hb); have n4_ := Aside0.mk (Kd.R_lower (Kd.R_new' (Kd.R_new' (Kd.R_new' (Kd.R_new' ho0 (Kd.R_lt (by (with_reducible repeat (first | apply Kd.R_alloc | apply Kd.R_drewN | apply Kd.R_drew)); exact HO107.out))) (Kd.R_lt (by (with_reducible repeat (first | apply Kd.R_alloc | apply Kd.R_drewN | apply Kd.R_drew)); exact HO127.out))) (Kd.R_lt (by (with_reducible repeat (first | apply Kd.R_alloc | apply Kd.R_drewN | apply Kd.R_drew)); exact HO131.out))) (Kd.R_lt (by (with_reducible repeat (first | apply Kd.R_alloc | apply Kd.R_drewN | apply Kd.R_drew)); exact HO134.out))) (below_size (by repeat (first | (with_reducible first | exact HB.out | apply below_alloc | apply pw_below_drewN | apply below_drew1 | refine below_set ?_ GE115.out | refine below_set ?_ GE123.out) | exact HB.out)))); have n5_ := Aside0.mk (blk_below (g := gb115) (o := .cells #[.int .i64 t111, .int .i64 t112, .string t113, .bool true] 28 (0, 0)) (by (with_reducible repeat (first | refine blk_drewN ?_ _ | refine blk_drew ?_ | refine blk_alloc ?_ _)); exact BK115.out) hb); have n6_ := Aside0.mk (blk_below (g := gb123) (o := .cells #[.int .i64 t119, .int .i64 t120, .string t121, .bool false] 28 (0, 0)) (by (with_reducible repeat (first | refine blk_drewN ?_ _ | refine blk_drew ?_ | refine blk_alloc ?_ _)); exact BK123.out) hb); have n7_ := Aside0.mk (below_step (by repeat (first | (with_reducible first | exact HB.out | apply below_alloc | apply pw_below_drewN | apply below_drew1 | refine below_set ?_ GE115.out | refine below_set ?_ GE123.out) | exact HB.out)) hb); clear HO107; clear HO127; clear HO131; clear HO134; clear BK115; clear BK123; clear HB; have HO107 := n0_; have HO127 := n1_; have HO131 := n2_; have HO134 := n3_; have HO137 := n4_; have BK115 := n5_; have BK123 := n6_; have HB := n7_; clear n0_ n1_ n2_ n3_ n4_ n5_ n6_ n7_; (try clear hb); (try clear hb2); (try clear hk); (try clear hi); (try clear ho0); obtain ⟨Ao172, co172, eo172⟩ := Kd.R_slice HO134.out; subst eo172; obtain ⟨Ao173, co173, eo173⟩ := Kd.R_slice HO137.out; subst eo173) | ((with_reducible refine gate_callee (f := 14) rfl ?_); refine goesL_ (some 64) rfl rfl Try.func14 (by kernel_rfl) rfl #[.slice Ao172 t132.length co172, .slice Ao173 t135.length co173] rfl (by (try simp only [List.map_toArray, List.map_cons, List.map_nil]); first | done | rfl | (simp only [List.length_drop, List.length_take]; rfl)) ?_; (with_reducible refine (topiaristkeep_Bytes.calls _ _ t132 _ _ t135 true _ ?side1 ?side2 ?side3 ?side4 A34.out).mono ?_); (case side1 => repeat (first | exact (Kd.R_reads' HO134.out).2.2 | (with_reducible refine Kd.C_alloc ?_ _) | (with_reducible refine Kd.C_drewN ?_ _) | (with_reducible refine Kd.C_drew ?_))); (case side2 => exact (Kd.R_reads' HO134.out).2.1); (case side3 => repeat (first | exact (Kd.R_reads' HO137.out).2.2 | (with_reducible refine Kd.C_alloc ?_ _) | (with_reducible refine Kd.C_drewN ?_ _) | (with_reducible refine Kd.C_drew ?_))); (case side4 => exact (Kd.R_reads' HO137.out).2.1); rintro e w' ⟨rfl, ⟨nd, rfl⟩⟩; refine ⟨_, rfl, ?_⟩) | (go_at_call 17; (with_reducible refine (bytes_Text.calls kj3 _ _ y105 a2 t139 _ ?side1 ?side2 A36.out).mono ?_); (case side1 => repeat (first | exact (Kd.R_reads' HO107.out).2.2 | (with_reducible refine Kd.C_alloc ?_ _) | (with_reducible refine Kd.C_drewN ?_ _) | (with_reducible refine Kd.C_drew ?_))); (case side2 => exact (Kd.R_reads' HO107.out).2.1); rintro e w174 ⟨v140, rfl, ho0, hb⟩; have n0_ := Aside0.mk (Kd.R_elder' (by (with_reducible repeat (first | apply Kd.R_alloc | apply Kd.R_drewN | apply Kd.R_drew)); exact HO107.out) (Kd.R_base ho0) hb); have n1_ := Aside0.mk (Kd.R_elder' (by (with_reducible repeat (first | apply Kd.R_alloc | apply Kd.R_drewN | apply Kd.R_drew)); exact HO127.out) (Kd.R_base ho0) hb); have n2_ := Aside0.mk (Kd.R_elder' (by (with_reducible repeat (first | apply Kd.R_alloc | apply Kd.R_drewN | apply Kd.R_drew)); exact HO131.out) (Kd.R_base ho0) hb); have n3_ := Aside0.mk (Kd.R_elder' (by (with_reducible repeat (first | apply Kd.R_alloc | apply Kd.R_drewN | apply Kd.R_drew)); exact HO134.out) (Kd.R_base ho0) hb); have n4_ := Aside0.mk (Kd.R_elder' (by (with_reducible repeat (first | apply Kd.R_alloc | apply Kd.R_drewN | apply Kd.R_drew)); exact HO137.out) (Kd.R_base ho0) hb); have n5_ := Aside0.mk (Kd.R_lower (Kd.R_new' (Kd.R_new' (Kd.R_new' (Kd.R_new' (Kd.R_new' ho0 (Kd.R_lt (by (with_reducible repeat (first | apply Kd.R_alloc | apply Kd.R_drewN | apply Kd.R_drew)); exact HO107.out))) (Kd.R_lt (by (with_reducible repeat (first | apply Kd.R_alloc | apply Kd.R_drewN | apply Kd.R_drew)); exact HO127.out))) (Kd.R_lt (by (with_reducible repeat (first | apply Kd.R_alloc | apply Kd.R_drewN | apply Kd.R_drew)); exact HO131.out))) (Kd.R_lt (by (with_reducible repeat (first | apply Kd.R_alloc | apply Kd.R_drewN | apply Kd.R_drew)); exact HO134.out))) (Kd.R_lt (by (with_reducible repeat (first | apply Kd.R_alloc | apply Kd.R_drewN | apply Kd.R_drew)); exact HO137.out))) (below_size (by repeat (first | (with_reducible first | exact HB.out | apply below_alloc | apply pw_below_drewN | apply below_drew1 | refine below_set ?_ GE115.out | refine below_set ?_ GE123.out) | exact HB.out)))); have n6_ := Aside0.mk (blk_below (g := gb115) (o := .cells #[.int .i64 t111, .int .i64 t112, .string t113, .bool true] 28 (0, 0)) (by (with_reducible repeat (first | refine blk_drewN ?_ _ | refine blk_drew ?_ | refine blk_alloc ?_ _)); exact BK115.out) hb); have n7_ := Aside0.mk (blk_below (g := gb123) (o := .cells #[.int .i64 t119, .int .i64 t120, .string t121, .bool false] 28 (0, 0)) (by (with_reducible repeat (first | refine blk_drewN ?_ _ | refine blk_drew ?_ | refine blk_alloc ?_ _)); exact BK123.out) hb); have n8_ := Aside0.mk (below_step (by repeat (first | (with_reducible first | exact HB.out | apply below_alloc | apply pw_below_drewN | apply below_drew1 | refine below_set ?_ GE115.out | refine below_set ?_ GE123.out) | exact HB.out)) hb); clear HO107; clear HO127; clear HO131; clear HO134; clear HO137; clear BK115; clear BK123; clear HB; have HO107 := n0_; have HO127 := n1_; have HO131 := n2_; have HO134 := n3_; have HO137 := n4_; have HO141 := n5_; have BK115 := n6_; have BK123 := n7_; have HB := n8_; clear n0_ n1_ n2_ n3_ n4_ n5_ n6_ n7_ n8_; (try clear hb); (try clear hb2); (try clear hk); (try clear hi); (try clear ho0)) | (go_at_call 18; (with_reducible refine (topiaristref20_Text.calls kj3 _ _ l0 a2 t142 _ ?side1 ?side2 A37.out).mono ?_); (case side1 => repeat (first | exact (Kd.C_below HR0.out HB.out) | (with_reducible refine Kd.C_alloc ?_ _) | (with_reducible refine Kd.C_drewN ?_ _) | (with_reducible refine Kd.C_drew ?_))); (case side2 => exact HC0.out); rintro e w175 ⟨v143, rfl, ho0, hb⟩; have n0_ := Aside0.mk (Kd.R_elder' (by (with_reducible repeat (first | apply Kd.R_alloc | apply Kd.R_drewN | apply Kd.R_drew)); exact HO107.out) (Kd.R_base ho0) hb); have n1_ := Aside0.mk (Kd.R_elder' (by (with_reducible repeat (first | apply Kd.R_alloc | apply Kd.R_drewN | apply Kd.R_drew)); exact HO127.out) (Kd.R_base ho0) hb); have n2_ := Aside0.mk (Kd.R_elder' (by (with_reducible repeat (first | apply Kd.R_alloc | apply Kd.R_drewN | apply Kd.R_drew)); exact HO131.out) (Kd.R_base ho0) hb); have n3_ := Aside0.mk (Kd.R_elder' (by (with_reducible repeat (first | apply Kd.R_alloc | apply Kd.R_drewN | apply Kd.R_drew)); exact HO134.out) (Kd.R_base ho0) hb); have n4_ := Aside0.mk (Kd.R_elder' (by (with_reducible repeat (first | apply Kd.R_alloc | apply Kd.R_drewN | apply Kd.R_drew)); exact HO137.out) (Kd.R_base ho0) hb); have n5_ := Aside0.mk (Kd.R_elder' (by (with_reducible repeat (first | apply Kd.R_alloc | apply Kd.R_drewN | apply Kd.R_drew)); exact HO141.out) (Kd.R_base ho0) hb); have n6_ := Aside0.mk (Kd.R_lower (Kd.R_new' (Kd.R_new' (Kd.R_new' (Kd.R_new' (Kd.R_new' (Kd.R_new' ho0 (Kd.R_lt (by (with_reducible repeat (first | apply Kd.R_alloc | apply Kd.R_drewN | apply Kd.R_drew)); exact HO107.out))) (Kd.R_lt (by (with_reducible repeat (first | apply Kd.R_alloc | apply Kd.R_drewN | apply Kd.R_drew)); exact HO127.out))) (Kd.R_lt (by (with_reducible repeat (first | apply Kd.R_alloc | apply Kd.R_drewN | apply Kd.R_drew)); exact HO131.out))) (Kd.R_lt (by (with_reducible repeat (first | apply Kd.R_alloc | apply Kd.R_drewN | apply Kd.R_drew)); exact HO134.out))) (Kd.R_lt (by (with_reducible repeat (first | apply Kd.R_alloc | apply Kd.R_drewN | apply Kd.R_drew)); exact HO137.out))) (Kd.R_lt (by (with_reducible repeat (first | apply Kd.R_alloc | apply Kd.R_drewN | apply Kd.R_drew)); exact HO141.out))) (below_size (by repeat (first | (with_reducible first | exact HB.out | apply below_alloc | apply pw_below_drewN | apply below_drew1 | refine below_set ?_ GE115.out | refine below_set ?_ GE123.out) | exact HB.out)))); have n7_ := Aside0.mk (blk_below (g := gb115) (o := .cells #[.int .i64 t111, .int .i64 t112, .string t113, .bool true] 28 (0, 0)) (by (with_reducible repeat (first | refine blk_drewN ?_ _ | refine blk_drew ?_ | refine blk_alloc ?_ _)); exact BK115.out) hb); have n8_ := Aside0.mk (blk_below (g := gb123) (o := .cells #[.int .i64 t119, .int .i64 t120, .string t121, .bool false] 28 (0, 0)) (by (with_reducible repeat (first | refine blk_drewN ?_ _ | refine blk_drew ?_ | refine blk_alloc ?_ _)); exact BK123.out) hb); have n9_ := Aside0.mk (below_step (by repeat (first | (with_reducible first | exact HB.out | apply below_alloc | apply pw_below_drewN | apply below_drew1 | refine below_set ?_ GE115.out | refine below_set ?_ GE123.out) | exact HB.out)) hb); clear HO107; clear HO127; clear HO131; clear HO134; clear HO137; clear HO141; clear BK115; clear BK123; clear HB; have HO107 := n0_; have HO127 := n1_; have HO131 := n2_; have HO134 := n3_; have HO137 := n4_; have HO141 := n5_; have HO144 := n6_; have BK115 := n7_; have BK123 := n8_; have HB := n9_; clear n0_ n1_ n2_ n3_ n4_ n5_ n6_ n7_ n8_ n9_; (try clear hb); (try clear hb2); (try clear hk); (try clear hi); (try clear ho0); obtain ⟨Ao176, co176, eo176⟩ := Kd.R_slice HO141.out; subst eo176; obtain ⟨Ao177, co177, eo177⟩ := Kd.R_slice HO144.out; subst eo177) | (go_at_call 14; (with_reducible refine (topiaristkeep_Bytes.calls _ _ t139 _ _ t142 true _ ?side1 ?side2 ?side3 ?side4 A38.out).mono ?_); (case side1 => repeat (first | exact (Kd.R_reads' HO141.out).2.2 | (with_reducible refine Kd.C_alloc ?_ _) | (with_reducible refine Kd.C_drewN ?_ _) | (with_reducible refine Kd.C_drew ?_))); (case side2 => exact (Kd.R_reads' HO141.out).2.1); (case side3 => repeat (first | exact (Kd.R_reads' HO144.out).2.2 | (with_reducible refine Kd.C_alloc ?_ _) | (with_reducible refine Kd.C_drewN ?_ _) | (with_reducible refine Kd.C_drew ?_))); (case side4 => exact (Kd.R_reads' HO144.out).2.1); rintro e w' ⟨rfl, ⟨nd, rfl⟩⟩; have hnb178 := NB115_123.out; have hnc178 := NB123_115.out; have hcz179_0 : w175.cell? ⟨gb115, 0, none⟩ = some (.int .i64 t111) := (blk_cell BK115.out 0).trans rfl; have hcz179_1 : w175.cell? ⟨gb115, 1, none⟩ = some (.int .i64 t112) := (blk_cell BK115.out 1).trans rfl; have hcz179_2 : w175.cell? ⟨gb115, 2, none⟩ = some (.string t113) := (blk_cell BK115.out 2).trans rfl; have hcz179_3 : w175.cell? ⟨gb115, 3, none⟩ = some (.bool true) := (blk_cell BK115.out 3).trans rfl; have hfz179_0 := blk_frozen BK115.out 0; have hfz179_1 := blk_frozen BK115.out 1; have hfz179_2 := blk_frozen BK115.out 2; have hfz179_3 := blk_frozen BK115.out 3; have hcz180_0 : w175.cell? ⟨gb123, 0, none⟩ = some (.int .i64 t119) := (blk_cell BK123.out 0).trans rfl; have hcz180_1 : w175.cell? ⟨gb123, 1, none⟩ = some (.int .i64 t120) := (blk_cell BK123.out 1).trans rfl; have hcz180_2 : w175.cell? ⟨gb123, 2, none⟩ = some (.string t121) := (blk_cell BK123.out 2).trans rfl; have hcz180_3 : w175.cell? ⟨gb123, 3, none⟩ = some (.bool false) := (blk_cell BK123.out 3).trans rfl; have hfz180_0 := blk_frozen BK123.out 0; have hfz180_1 := blk_frozen BK123.out 1; have hfz180_2 := blk_frozen BK123.out 2; have hfz180_3 := blk_frozen BK123.out 3) | (go_at_call 19; (with_reducible refine (bytes_Sum.calls kj3 _ _ y105 t158 _ ?side1 ?side2 A157.out).mono ?_); (case side1 => repeat (first | exact (Kd.R_reads' HO107.out).2.2 | (with_reducible refine Kd.C_alloc ?_ _) | (with_reducible refine Kd.C_drewN ?_ _) | (with_reducible refine Kd.C_drew ?_))); (case side2 => exact (Kd.R_reads' HO107.out).2.1); rintro e w' ⟨rfl, ⟨nd, rfl⟩⟩) | (go_at_call 20; (with_reducible refine (topiaristref20_Sum.calls kj3 _ _ l0 t159 _ ?side1 ?side2 A158.out).mono ?_); (case side1 => repeat (first | exact (Kd.C_below HR0.out (by repeat (first | (with_reducible first | exact HB.out | apply below_alloc | apply pw_below_drewN | apply below_drew1 | refine below_set ?_ GE115.out | refine below_set ?_ GE123.out) | exact HB.out))) | (with_reducible refine Kd.C_alloc ?_ _) | (with_reducible refine Kd.C_drewN ?_ _) | (with_reducible refine Kd.C_drew ?_))); (case side2 => exact HC0.out); rintro e w' ⟨rfl, ⟨nd, rfl⟩⟩) | (go_at_call 21; (with_reducible refine (bytes_Seal.calls kj3 _ _ y105 t160 _ ?side1 ?side2 A160.out).mono ?_); (case side1 => repeat (first | exact (Kd.R_reads' HO107.out).2.2 | (with_reducible refine Kd.C_alloc ?_ _) | (with_reducible refine Kd.C_drewN ?_ _) | (with_reducible refine Kd.C_drew ?_))); (case side2 => exact (Kd.R_reads' HO107.out).2.1); rintro e w181 ⟨v161, rfl, ho0, hb⟩; have n0_ := Aside0.mk (Kd.R_elder' (by (with_reducible repeat (first | apply Kd.R_alloc | apply Kd.R_drewN | apply Kd.R_drew)); exact HO107.out) (Kd.R_base ho0) hb); have n1_ := Aside0.mk (Kd.R_elder' (by (with_reducible repeat (first | apply Kd.R_alloc | apply Kd.R_drewN | apply Kd.R_drew)); exact HO127.out) (Kd.R_base ho0) hb); have n2_ := Aside0.mk (Kd.R_elder' (by (with_reducible repeat (first | apply Kd.R_alloc | apply Kd.R_drewN | apply Kd.R_drew)); exact HO131.out) (Kd.R_base ho0) hb); have n3_ := Aside0.mk (Kd.R_elder' (by (with_reducible repeat (first | apply Kd.R_alloc | apply Kd.R_drewN | apply Kd.R_drew)); exact HO134.out) (Kd.R_base ho0) hb); have n4_ := Aside0.mk (Kd.R_elder' (by (with_reducible repeat (first | apply Kd.R_alloc | apply Kd.R_drewN | apply Kd.R_drew)); exact HO137.out) (Kd.R_base ho0) hb); have n5_ := Aside0.mk (Kd.R_elder' (by (with_reducible repeat (first | apply Kd.R_alloc | apply Kd.R_drewN | apply Kd.R_drew)); exact HO141.out) (Kd.R_base ho0) hb); have n6_ := Aside0.mk (Kd.R_elder' (by (with_reducible repeat (first | apply Kd.R_alloc | apply Kd.R_drewN | apply Kd.R_drew)); exact HO144.out) (Kd.R_base ho0) hb); have n7_ := Aside0.mk (Kd.R_lower (Kd.R_new' (Kd.R_new' (Kd.R_new' (Kd.R_new' (Kd.R_new' (Kd.R_new' (Kd.R_new' ho0 (Kd.R_lt (by (with_reducible repeat (first | apply Kd.R_alloc | apply Kd.R_drewN | apply Kd.R_drew)); exact HO107.out))) (Kd.R_lt (by (with_reducible repeat (first | apply Kd.R_alloc | apply Kd.R_drewN | apply Kd.R_drew)); exact HO127.out))) (Kd.R_lt (by (with_reducible repeat (first | apply Kd.R_alloc | apply Kd.R_drewN | apply Kd.R_drew)); exact HO131.out))) (Kd.R_lt (by (with_reducible repeat (first | apply Kd.R_alloc | apply Kd.R_drewN | apply Kd.R_drew)); exact HO134.out))) (Kd.R_lt (by (with_reducible repeat (first | apply Kd.R_alloc | apply Kd.R_drewN | apply Kd.R_drew)); exact HO137.out))) (Kd.R_lt (by (with_reducible repeat (first | apply Kd.R_alloc | apply Kd.R_drewN | apply Kd.R_drew)); exact HO141.out))) (Kd.R_lt (by (with_reducible repeat (first | apply Kd.R_alloc | apply Kd.R_drewN | apply Kd.R_drew)); exact HO144.out))) (below_size (by repeat (first | (with_reducible first | exact HB.out | apply below_alloc | apply pw_below_drewN | apply below_drew1 | refine below_set ?_ GE115.out | refine below_set ?_ GE123.out) | exact HB.out)))); have n8_ := Aside0.mk (blk_below (g := gb115) (o := .cells #[.int .i64 t111, .int .i64 t112, .string t113, .bool true] 28 (0, 0)) (by (with_reducible repeat (first | refine blk_drewN ?_ _ | refine blk_drew ?_ | refine blk_alloc ?_ _)); exact BK115.out) hb); have n9_ := Aside0.mk (blk_below (g := gb123) (o := .cells #[.int .i64 t119, .int .i64 t120, .string t121, .bool false] 28 (0, 0)) (by (with_reducible repeat (first | refine blk_drewN ?_ _ | refine blk_drew ?_ | refine blk_alloc ?_ _)); exact BK123.out) hb); have n10_ := Aside0.mk (below_step (by repeat (first | (with_reducible first | exact HB.out | apply below_alloc | apply pw_below_drewN | apply below_drew1 | refine below_set ?_ GE115.out | refine below_set ?_ GE123.out) | exact HB.out)) hb); clear HO107; clear HO127; clear HO131; clear HO134; clear HO137; clear HO141; clear HO144; clear BK115; clear BK123; clear HB; have HO107 := n0_; have HO127 := n1_; have HO131 := n2_; have HO134 := n3_; have HO137 := n4_; have HO141 := n5_; have HO144 := n6_; have HO162 := n7_; have BK115 := n8_; have BK123 := n9_; have HB := n10_; clear n0_ n1_ n2_ n3_ n4_ n5_ n6_ n7_ n8_ n9_ n10_; (try clear hb); (try clear hb2); (try clear hk); (try clear hi); (try clear ho0)) | (go_at_call 22; (with_reducible refine (topiaristref20_Seal.calls kj3 _ _ l0 t163 _ ?side1 ?side2 A161.out).mono ?_); (case side1 => repeat (first | exact (Kd.C_below HR0.out HB.out) | (with_reducible refine Kd.C_alloc ?_ _) | (with_reducible refine Kd.C_drewN ?_ _) | (with_reducible refine Kd.C_drew ?_))); (case side2 => exact HC0.out); rintro e w182 ⟨v164, rfl, ho0, hb⟩; have n0_ := Aside0.mk (Kd.R_elder' (by (with_reducible repeat (first | apply Kd.R_alloc | apply Kd.R_drewN | apply Kd.R_drew)); exact HO107.out) (Kd.R_base ho0) hb); have n1_ := Aside0.mk (Kd.R_elder' (by (with_reducible repeat (first | apply Kd.R_alloc | apply Kd.R_drewN | apply Kd.R_drew)); exact HO127.out) (Kd.R_base ho0) hb); have n2_ := Aside0.mk (Kd.R_elder' (by (with_reducible repeat (first | apply Kd.R_alloc | apply Kd.R_drewN | apply Kd.R_drew)); exact HO131.out) (Kd.R_base ho0) hb); have n3_ := Aside0.mk (Kd.R_elder' (by (with_reducible repeat (first | apply Kd.R_alloc | apply Kd.R_drewN | apply Kd.R_drew)); exact HO134.out) (Kd.R_base ho0) hb); have n4_ := Aside0.mk (Kd.R_elder' (by (with_reducible repeat (first | apply Kd.R_alloc | apply Kd.R_drewN | apply Kd.R_drew)); exact HO137.out) (Kd.R_base ho0) hb); have n5_ := Aside0.mk (Kd.R_elder' (by (with_reducible repeat (first | apply Kd.R_alloc | apply Kd.R_drewN | apply Kd.R_drew)); exact HO141.out) (Kd.R_base ho0) hb); have n6_ := Aside0.mk (Kd.R_elder' (by (with_reducible repeat (first | apply Kd.R_alloc | apply Kd.R_drewN | apply Kd.R_drew)); exact HO144.out) (Kd.R_base ho0) hb); have n7_ := Aside0.mk (Kd.R_elder' (by (with_reducible repeat (first | apply Kd.R_alloc | apply Kd.R_drewN | apply Kd.R_drew)); exact HO162.out) (Kd.R_base ho0) hb); have n8_ := Aside0.mk (Kd.R_lower (Kd.R_new' (Kd.R_new' (Kd.R_new' (Kd.R_new' (Kd.R_new' (Kd.R_new' (Kd.R_new' (Kd.R_new' ho0 (Kd.R_lt (by (with_reducible repeat (first | apply Kd.R_alloc | apply Kd.R_drewN | apply Kd.R_drew)); exact HO107.out))) (Kd.R_lt (by (with_reducible repeat (first | apply Kd.R_alloc | apply Kd.R_drewN | apply Kd.R_drew)); exact HO127.out))) (Kd.R_lt (by (with_reducible repeat (first | apply Kd.R_alloc | apply Kd.R_drewN | apply Kd.R_drew)); exact HO131.out))) (Kd.R_lt (by (with_reducible repeat (first | apply Kd.R_alloc | apply Kd.R_drewN | apply Kd.R_drew)); exact HO134.out))) (Kd.R_lt (by (with_reducible repeat (first | apply Kd.R_alloc | apply Kd.R_drewN | apply Kd.R_drew)); exact HO137.out))) (Kd.R_lt (by (with_reducible repeat (first | apply Kd.R_alloc | apply Kd.R_drewN | apply Kd.R_drew)); exact HO141.out))) (Kd.R_lt (by (with_reducible repeat (first | apply Kd.R_alloc | apply Kd.R_drewN | apply Kd.R_drew)); exact HO144.out))) (Kd.R_lt (by (with_reducible repeat (first | apply Kd.R_alloc | apply Kd.R_drewN | apply Kd.R_drew)); exact HO162.out))) (below_size (by repeat (first | (with_reducible first | exact HB.out | apply below_alloc | apply pw_below_drewN | apply below_drew1 | refine below_set ?_ GE115.out | refine below_set ?_ GE123.out) | exact HB.out)))); have n9_ := Aside0.mk (blk_below (g := gb115) (o := .cells #[.int .i64 t111, .int .i64 t112, .string t113, .bool true] 28 (0, 0)) (by (with_reducible repeat (first | refine blk_drewN ?_ _ | refine blk_drew ?_ | refine blk_alloc ?_ _)); exact BK115.out) hb); have n10_ := Aside0.mk (blk_below (g := gb123) (o := .cells #[.int .i64 t119, .int .i64 t120, .string t121, .bool false] 28 (0, 0)) (by (with_reducible repeat (first | refine blk_drewN ?_ _ | refine blk_drew ?_ | refine blk_alloc ?_ _)); exact BK123.out) hb); have n11_ := Aside0.mk (below_step (by repeat (first | (with_reducible first | exact HB.out | apply below_alloc | apply pw_below_drewN | apply below_drew1 | refine below_set ?_ GE115.out | refine below_set ?_ GE123.out) | exact HB.out)) hb); clear HO107; clear HO127; clear HO131; clear HO134; clear HO137; clear HO141; clear HO144; clear HO162; clear BK115; clear BK123; clear HB; have HO107 := n0_; have HO127 := n1_; have HO131 := n2_; have HO134 := n3_; have HO137 := n4_; have HO141 := n5_; have HO144 := n6_; have HO162 := n7_; have HO165 := n8_; have BK115 := n9_; have BK123 := n10_; have HB := n11_; clear n0_ n1_ n2_ n3_ n4_ n5_ n6_ n7_ n8_ n9_ n10_ n11_; (try clear hb); (try clear hb2); (try clear hk); (try clear hi); (try clear ho0); obtain ⟨Ao183, co183, eo183⟩ := Kd.R_slice HO162.out; subst eo183; obtain ⟨Ao184, co184, eo184⟩ := Kd.R_slice HO165.out; subst eo184) | (go_at_call 14; (with_reducible refine (topiaristkeep_Bytes.calls _ _ t160 _ _ t163 true _ ?side1 ?side2 ?side3 ?side4 A162.out).mono ?_); (case side1 => repeat (first | exact (Kd.R_reads' HO162.out).2.2 | (with_reducible refine Kd.C_alloc ?_ _) | (with_reducible refine Kd.C_drewN ?_ _) | (with_reducible refine Kd.C_drew ?_))); (case side2 => exact (Kd.R_reads' HO162.out).2.1); (case side3 => repeat (first | exact (Kd.R_reads' HO165.out).2.2 | (with_reducible refine Kd.C_alloc ?_ _) | (with_reducible refine Kd.C_drewN ?_ _) | (with_reducible refine Kd.C_drew ?_))); (case side4 => exact (Kd.R_reads' HO165.out).2.1); rintro e w' ⟨rfl, ⟨nd, rfl⟩⟩; obtain ⟨Ao185, co185, eo185⟩ := Kd.R_slice HO127.out; subst eo185; obtain ⟨Ao186, co186, eo186⟩ := Kd.R_slice HO131.out; subst eo186) | (go_at_call 14; (with_reducible refine (topiaristkeep_Bytes.calls _ _ t124 _ _ t128 true _ ?side1 ?side2 ?side3 ?side4 A164.out).mono ?_); (case side1 => repeat (first | exact (Kd.R_reads' HO127.out).2.2 | (with_reducible refine Kd.C_alloc ?_ _) | (with_reducible refine Kd.C_drewN ?_ _) | (with_reducible refine Kd.C_drew ?_))); (case side2 => exact (Kd.R_reads' HO127.out).2.1); (case side3 => repeat (first | exact (Kd.R_reads' HO131.out).2.2 | (with_reducible refine Kd.C_alloc ?_ _) | (with_reducible refine Kd.C_drewN ?_ _) | (with_reducible refine Kd.C_drew ?_))); (case side4 => exact (Kd.R_reads' HO131.out).2.1); rintro e w' ⟨rfl, ⟨nd, rfl⟩⟩) | (go_at_call 14; (with_reducible refine (topiaristkeep_Bytes.calls _ _ y105 _ _ l0 true _ ?side1 ?side2 ?side3 ?side4 A167.out).mono ?_); (case side1 => repeat (first | exact (Kd.R_reads' HO107.out).2.2 | (with_reducible refine Kd.C_alloc ?_ _) | (with_reducible refine Kd.C_drewN ?_ _) | (with_reducible refine Kd.C_drew ?_))); (case side2 => exact (Kd.R_reads' HO107.out).2.1); (case side3 => repeat (first | exact (Kd.C_below HR0.out (by repeat (first | (with_reducible first | exact HB.out | apply below_alloc | apply pw_below_drewN | apply below_drew1 | refine below_set ?_ GE115.out | refine below_set ?_ GE123.out) | exact HB.out))) | (with_reducible refine Kd.C_alloc ?_ _) | (with_reducible refine Kd.C_drewN ?_ _) | (with_reducible refine Kd.C_drew ?_))); (case side4 => exact HC0.out); rintro e w' ⟨rfl, ⟨nd, rfl⟩⟩) | (go_at_call 7; (with_reducible refine (topiaristlaw20_wakes.calls kj3  t169 _ A169.out).mono ?_); rintro e w187 ⟨rfl, hb⟩; have n0_ := Aside0.mk (Kd.R_below (by (with_reducible repeat (first | apply Kd.R_alloc | apply Kd.R_drewN | apply Kd.R_drew)); exact HO107.out) hb); have n1_ := Aside0.mk (Kd.R_below (by (with_reducible repeat (first | apply Kd.R_alloc | apply Kd.R_drewN | apply Kd.R_drew)); exact HO127.out) hb); have n2_ := Aside0.mk (Kd.R_below (by (with_reducible repeat (first | apply Kd.R_alloc | apply Kd.R_drewN | apply Kd.R_drew)); exact HO131.out) hb); have n3_ := Aside0.mk (Kd.R_below (by (with_reducible repeat (first | apply Kd.R_alloc | apply Kd.R_drewN | apply Kd.R_drew)); exact HO134.out) hb); have n4_ := Aside0.mk (Kd.R_below (by (with_reducible repeat (first | apply Kd.R_alloc | apply Kd.R_drewN | apply Kd.R_drew)); exact HO137.out) hb); have n5_ := Aside0.mk (Kd.R_below (by (with_reducible repeat (first | apply Kd.R_alloc | apply Kd.R_drewN | apply Kd.R_drew)); exact HO141.out) hb); have n6_ := Aside0.mk (Kd.R_below (by (with_reducible repeat (first | apply Kd.R_alloc | apply Kd.R_drewN | apply Kd.R_drew)); exact HO144.out) hb); have n7_ := Aside0.mk (Kd.R_below (by (with_reducible repeat (first | apply Kd.R_alloc | apply Kd.R_drewN | apply Kd.R_drew)); exact HO162.out) hb); have n8_ := Aside0.mk (Kd.R_below (by (with_reducible repeat (first | apply Kd.R_alloc | apply Kd.R_drewN | apply Kd.R_drew)); exact HO165.out) hb); have n9_ := Aside0.mk (blk_below (g := gb115) (o := .cells #[.int .i64 t111, .int .i64 t112, .string t113, .bool true] 28 (0, 0)) (by (with_reducible repeat (first | refine blk_drewN ?_ _ | refine blk_drew ?_ | refine blk_alloc ?_ _)); exact BK115.out) hb); have n10_ := Aside0.mk (blk_below (g := gb123) (o := .cells #[.int .i64 t119, .int .i64 t120, .string t121, .bool false] 28 (0, 0)) (by (with_reducible repeat (first | refine blk_drewN ?_ _ | refine blk_drew ?_ | refine blk_alloc ?_ _)); exact BK123.out) hb); have n11_ := Aside0.mk (below_step (by repeat (first | (with_reducible first | exact HB.out | apply below_alloc | apply pw_below_drewN | apply below_drew1 | refine below_set ?_ GE115.out | refine below_set ?_ GE123.out) | exact HB.out)) hb); clear HO107; clear HO127; clear HO131; clear HO134; clear HO137; clear HO141; clear HO144; clear HO162; clear HO165; clear BK115; clear BK123; clear HB; have HO107 := n0_; have HO127 := n1_; have HO131 := n2_; have HO134 := n3_; have HO137 := n4_; have HO141 := n5_; have HO144 := n6_; have HO162 := n7_; have HO165 := n8_; have BK115 := n9_; have BK123 := n10_; have HB := n11_; clear n0_ n1_ n2_ n3_ n4_ n5_ n6_ n7_ n8_ n9_ n10_ n11_; (try clear hb); (try clear hb2); (try clear hk); (try clear hi)))
                                            go_meet
                                            case rel => exact ⟨_, (t169), (by first | rfl | (simp; done) | (simp [*]; done)), H', ⟨by have := HJ3.out; first | omega | exact Nat.le_refl _⟩, ⟨by (with_reducible repeat (first | refine blk_drewN ?_ _ | refine blk_drew ?_ | refine blk_alloc ?_ _)); exact BK115.out⟩, ⟨by (with_reducible repeat (first | refine blk_drewN ?_ _ | refine blk_drew ?_ | refine blk_alloc ?_ _)); exact BK123.out⟩, ⟨by repeat (first | (with_reducible first | exact HB.out | apply below_alloc | apply pw_below_drewN | apply below_drew1 | refine below_set ?_ GE115.out | refine below_set ?_ GE123.out) | exact HB.out)⟩⟩
                                          · replace c168 := Bool.eq_false_iff.mpr c168
                                            subst c168
                                            have H1 : (topiaristlaw20_BytesTell.j1 kj3 false) = some r := by rw [if_neg (show ¬ (false = true) by decide)] at H; exact H
                                            clear H
                                            have H := H1
                                            clear H1
                                            exact absurd ((topiaristlaw20_BytesTell.j1_false _ _  H).symm.trans hrt.out) Bool.false_ne_true
                                        · rw [if_neg c166] at H
                                          have c166b0 : (t125 == t129) = false := beq_eq_false_iff_ne.mpr c166
                                          have c166b1 : (t125 != t129) = true := bne_iff_ne.mpr c166
                                          exact absurd ((topiaristlaw20_BytesTell.j1_false _ _  H).symm.trans hrt.out) Bool.false_ne_true
                                      · replace c165 := Bool.eq_false_iff.mpr c165
                                        subst c165
                                        have H1 : (topiaristlaw20_BytesTell.j1 kj3 false) = some r := by rw [if_neg (show ¬ (false = true) by decide)] at H; exact H
                                        clear H
                                        have H := H1
                                        clear H1
                                        exact absurd ((topiaristlaw20_BytesTell.j1_false _ _  H).symm.trans hrt.out) Bool.false_ne_true
                                    · replace c163 := Bool.eq_false_iff.mpr c163
                                      subst c163
                                      have H1 : (topiaristlaw20_BytesTell.j1 kj3 false) = some r := by rw [if_neg (show ¬ (false = true) by decide)] at H; exact H
                                      clear H
                                      have H := H1
                                      clear H1
                                      exact absurd ((topiaristlaw20_BytesTell.j1_false _ _  H).symm.trans hrt.out) Bool.false_ne_true
                                  · rw [if_neg c159] at H
                                    have c159b0 : (t158 == t159) = false := beq_eq_false_iff_ne.mpr c159
                                    have c159b1 : (t158 != t159) = true := bne_iff_ne.mpr c159
                                    exact absurd ((topiaristlaw20_BytesTell.j1_false _ _  H).symm.trans hrt.out) Bool.false_ne_true
                                · rw [if_neg c156] at H
                                  have c156b0 : (t118 == 16) = false := beq_eq_false_iff_ne.mpr c156
                                  have c156b1 : (t118 != 16) = true := bne_iff_ne.mpr c156
                                  exact absurd ((topiaristlaw20_BytesTell.j1_false _ _  H).symm.trans hrt.out) Bool.false_ne_true
                            · rw [if_neg c46] at H
                              have c46b0 : ((t118 == 0) == t122) = false := by simpa using c46
                              (try (have c46b1 : decide ((t118 == 0) = t122) = false := by simpa using c46))
                              (try (have c46b2 : ((t118 == 0) == t122) = false := by simpa using c46))
                              (try (have c46b3 : ¬ ((t118 == 0) = t122) := by simpa using c46))
                              clear c46
                              exact absurd ((topiaristlaw20_BytesTell.j1_false _ _  H).symm.trans hrt.out) Bool.false_ne_true
                          · rw [if_neg c45] at H
                            have c45b0 : (t117 == t120) = false := beq_eq_false_iff_ne.mpr c45
                            have c45b1 : (t117 != t120) = true := bne_iff_ne.mpr c45
                            exact absurd ((topiaristlaw20_BytesTell.j1_false _ _  H).symm.trans hrt.out) Bool.false_ne_true
                        · rw [if_neg c44] at H
                          have c44b0 : (t116.toList == t121.toList) = false := beq_eq_false_iff_ne.mpr c44
                          have c44b1 : (t116.toList != t121.toList) = true := bne_iff_ne.mpr c44
                          exact absurd ((topiaristlaw20_BytesTell.j1_false _ _  H).symm.trans hrt.out) Bool.false_ne_true
                      · replace c43 := Bool.eq_false_iff.mpr c43
                        subst c43
                        have H1 : (if t110 = 16 then (if t116.toList = t121.toList then (if t117 = t120 then (if ((t118 == 0) == t122) = true then (if t122 = true then ((bytes_Sum.f kj3 y105).bind fun t170 => ((topiaristref20_Sum.f kj3 l0).bind fun t171 => (if t170 = t171 then ((bytes_Seal.f kj3 y105).bind fun t172 => ((topiaristref20_Seal.f kj3 l0).bind fun t175 => ((topiaristkeep_Bytes.f t172 t175).bind fun t178 => (if t178 = true then ((topiaristkeep_Bytes.f t124 t128).bind fun t179 => (if t179 = true then (if t125 = t129 then ((topiaristkeep_Bytes.f y105 l0).bind fun t180 => (if t180 = true then ((topiaristlaw20_wakes.f kj3).bind fun t181 => (topiaristlaw20_BytesTell.j1 kj3 t181)) else (topiaristlaw20_BytesTell.j1 kj3 false))) else (topiaristlaw20_BytesTell.j1 kj3 false)) else (topiaristlaw20_BytesTell.j1 kj3 false))) else (topiaristlaw20_BytesTell.j1 kj3 false))))) else (topiaristlaw20_BytesTell.j1 kj3 false)))) else (if t118 = 16 then ((bytes_Sum.f kj3 y105).bind fun t182 => ((topiaristref20_Sum.f kj3 l0).bind fun t183 => (if t182 = t183 then ((bytes_Seal.f kj3 y105).bind fun t184 => ((topiaristref20_Seal.f kj3 l0).bind fun t187 => ((topiaristkeep_Bytes.f t184 t187).bind fun t190 => (if t190 = true then ((topiaristkeep_Bytes.f t124 t128).bind fun t191 => (if t191 = true then (if t125 = t129 then ((topiaristkeep_Bytes.f y105 l0).bind fun t192 => (if t192 = true then ((topiaristlaw20_wakes.f kj3).bind fun t193 => (topiaristlaw20_BytesTell.j1 kj3 t193)) else (topiaristlaw20_BytesTell.j1 kj3 false))) else (topiaristlaw20_BytesTell.j1 kj3 false)) else (topiaristlaw20_BytesTell.j1 kj3 false))) else (topiaristlaw20_BytesTell.j1 kj3 false))))) else (topiaristlaw20_BytesTell.j1 kj3 false)))) else (topiaristlaw20_BytesTell.j1 kj3 false))) else (topiaristlaw20_BytesTell.j1 kj3 false)) else (topiaristlaw20_BytesTell.j1 kj3 false)) else (topiaristlaw20_BytesTell.j1 kj3 false)) else (topiaristlaw20_BytesTell.j1 kj3 false)) = some r := by rw [if_neg (show ¬ (false = true) by decide)] at H; exact H
                        clear H
                        have H := H1
                        clear H1
                        by_cases c309 : t110 = 16
                        · rw [if_pos c309] at H
                          have c309b0 : (t110 == 16) = true := beq_iff_eq.mpr c309
                          have c309b1 : (t110 != 16) = false := bne_eq_false_iff_eq.mpr c309
                          clear c309
                          by_cases c310 : t116.toList = t121.toList
                          · rw [if_pos c310] at H
                            have c310b0 : (t116.toList == t121.toList) = true := beq_iff_eq.mpr c310
                            have c310b1 : (t116.toList != t121.toList) = false := bne_eq_false_iff_eq.mpr c310
                            clear c310
                            by_cases c311 : t117 = t120
                            · rw [if_pos c311] at H
                              have c311b0 : (t117 == t120) = true := beq_iff_eq.mpr c311
                              have c311b1 : (t117 != t120) = false := bne_eq_false_iff_eq.mpr c311
                              clear c311
                              by_cases c312 : ((t118 == 0) == t122) = true
                              · rw [if_pos c312] at H
                                have c312b0 : ((t118 == 0) == t122) = true := c312
                                (try (have c312b1 : decide ((t118 == 0) = t122) = true := by simpa using c312))
                                (try (have c312b2 : ((t118 == 0) == t122) = true := by simpa using c312))
                                clear c312
                                by_cases c313 : t122 = true
                                · subst c313
                                  have H1 : ((bytes_Sum.f kj3 y105).bind fun t170 => ((topiaristref20_Sum.f kj3 l0).bind fun t171 => (if t170 = t171 then ((bytes_Seal.f kj3 y105).bind fun t172 => ((topiaristref20_Seal.f kj3 l0).bind fun t175 => ((topiaristkeep_Bytes.f t172 t175).bind fun t178 => (if t178 = true then ((topiaristkeep_Bytes.f t124 t128).bind fun t179 => (if t179 = true then (if t125 = t129 then ((topiaristkeep_Bytes.f y105 l0).bind fun t180 => (if t180 = true then ((topiaristlaw20_wakes.f kj3).bind fun t181 => (topiaristlaw20_BytesTell.j1 kj3 t181)) else (topiaristlaw20_BytesTell.j1 kj3 false))) else (topiaristlaw20_BytesTell.j1 kj3 false)) else (topiaristlaw20_BytesTell.j1 kj3 false))) else (topiaristlaw20_BytesTell.j1 kj3 false))))) else (topiaristlaw20_BytesTell.j1 kj3 false)))) = some r := by rw [if_pos rfl] at H; exact H
                                  clear H
                                  have H := H1
                                  clear H1
                                  replace H := Option.bind_eq_some_iff.mp H
                                  obtain ⟨t170, A3140, H⟩ := H
                                  replace H : ((topiaristref20_Sum.f kj3 l0).bind fun t171 => (if t170 = t171 then ((bytes_Seal.f kj3 y105).bind fun t172 => ((topiaristref20_Seal.f kj3 l0).bind fun t175 => ((topiaristkeep_Bytes.f t172 t175).bind fun t178 => (if t178 = true then ((topiaristkeep_Bytes.f t124 t128).bind fun t179 => (if t179 = true then (if t125 = t129 then ((topiaristkeep_Bytes.f y105 l0).bind fun t180 => (if t180 = true then ((topiaristlaw20_wakes.f kj3).bind fun t181 => (topiaristlaw20_BytesTell.j1 kj3 t181)) else (topiaristlaw20_BytesTell.j1 kj3 false))) else (topiaristlaw20_BytesTell.j1 kj3 false)) else (topiaristlaw20_BytesTell.j1 kj3 false))) else (topiaristlaw20_BytesTell.j1 kj3 false))))) else (topiaristlaw20_BytesTell.j1 kj3 false))) = some r := H
                                  have A314 := Aside0.mk A3140
                                  clear A3140
                                  replace H := Option.bind_eq_some_iff.mp H
                                  obtain ⟨t171, A3150, H⟩ := H
                                  replace H : (if t170 = t171 then ((bytes_Seal.f kj3 y105).bind fun t172 => ((topiaristref20_Seal.f kj3 l0).bind fun t175 => ((topiaristkeep_Bytes.f t172 t175).bind fun t178 => (if t178 = true then ((topiaristkeep_Bytes.f t124 t128).bind fun t179 => (if t179 = true then (if t125 = t129 then ((topiaristkeep_Bytes.f y105 l0).bind fun t180 => (if t180 = true then ((topiaristlaw20_wakes.f kj3).bind fun t181 => (topiaristlaw20_BytesTell.j1 kj3 t181)) else (topiaristlaw20_BytesTell.j1 kj3 false))) else (topiaristlaw20_BytesTell.j1 kj3 false)) else (topiaristlaw20_BytesTell.j1 kj3 false))) else (topiaristlaw20_BytesTell.j1 kj3 false))))) else (topiaristlaw20_BytesTell.j1 kj3 false)) = some r := H
                                  have A315 := Aside0.mk A3150
                                  clear A3150
                                  by_cases c316 : t170 = t171
                                  · rw [if_pos c316] at H
                                    have c316b0 : (t170 == t171) = true := beq_iff_eq.mpr c316
                                    have c316b1 : (t170 != t171) = false := bne_eq_false_iff_eq.mpr c316
                                    clear c316
                                    replace H := Option.bind_eq_some_iff.mp H
                                    obtain ⟨t172, A3170, H⟩ := H
                                    replace H : ((topiaristref20_Seal.f kj3 l0).bind fun t175 => ((topiaristkeep_Bytes.f t172 t175).bind fun t178 => (if t178 = true then ((topiaristkeep_Bytes.f t124 t128).bind fun t179 => (if t179 = true then (if t125 = t129 then ((topiaristkeep_Bytes.f y105 l0).bind fun t180 => (if t180 = true then ((topiaristlaw20_wakes.f kj3).bind fun t181 => (topiaristlaw20_BytesTell.j1 kj3 t181)) else (topiaristlaw20_BytesTell.j1 kj3 false))) else (topiaristlaw20_BytesTell.j1 kj3 false)) else (topiaristlaw20_BytesTell.j1 kj3 false))) else (topiaristlaw20_BytesTell.j1 kj3 false)))) = some r := H
                                    have A317 := Aside0.mk A3170
                                    clear A3170
                                    replace H := Option.bind_eq_some_iff.mp H
                                    obtain ⟨t175, A3180, H⟩ := H
                                    replace H : ((topiaristkeep_Bytes.f t172 t175).bind fun t178 => (if t178 = true then ((topiaristkeep_Bytes.f t124 t128).bind fun t179 => (if t179 = true then (if t125 = t129 then ((topiaristkeep_Bytes.f y105 l0).bind fun t180 => (if t180 = true then ((topiaristlaw20_wakes.f kj3).bind fun t181 => (topiaristlaw20_BytesTell.j1 kj3 t181)) else (topiaristlaw20_BytesTell.j1 kj3 false))) else (topiaristlaw20_BytesTell.j1 kj3 false)) else (topiaristlaw20_BytesTell.j1 kj3 false))) else (topiaristlaw20_BytesTell.j1 kj3 false))) = some r := H
                                    have A318 := Aside0.mk A3180
                                    clear A3180
                                    replace H := Option.bind_eq_some_iff.mp H
                                    obtain ⟨t178, A3190, H⟩ := H
                                    replace H : (if t178 = true then ((topiaristkeep_Bytes.f t124 t128).bind fun t179 => (if t179 = true then (if t125 = t129 then ((topiaristkeep_Bytes.f y105 l0).bind fun t180 => (if t180 = true then ((topiaristlaw20_wakes.f kj3).bind fun t181 => (topiaristlaw20_BytesTell.j1 kj3 t181)) else (topiaristlaw20_BytesTell.j1 kj3 false))) else (topiaristlaw20_BytesTell.j1 kj3 false)) else (topiaristlaw20_BytesTell.j1 kj3 false))) else (topiaristlaw20_BytesTell.j1 kj3 false)) = some r := H
                                    have A319 := Aside0.mk A3190
                                    clear A3190
                                    by_cases c320 : t178 = true
                                    · subst c320
                                      have H1 : ((topiaristkeep_Bytes.f t124 t128).bind fun t179 => (if t179 = true then (if t125 = t129 then ((topiaristkeep_Bytes.f y105 l0).bind fun t180 => (if t180 = true then ((topiaristlaw20_wakes.f kj3).bind fun t181 => (topiaristlaw20_BytesTell.j1 kj3 t181)) else (topiaristlaw20_BytesTell.j1 kj3 false))) else (topiaristlaw20_BytesTell.j1 kj3 false)) else (topiaristlaw20_BytesTell.j1 kj3 false))) = some r := by rw [if_pos rfl] at H; exact H
                                      clear H
                                      have H := H1
                                      clear H1
                                      replace H := Option.bind_eq_some_iff.mp H
                                      obtain ⟨t179, A3210, H⟩ := H
                                      replace H : (if t179 = true then (if t125 = t129 then ((topiaristkeep_Bytes.f y105 l0).bind fun t180 => (if t180 = true then ((topiaristlaw20_wakes.f kj3).bind fun t181 => (topiaristlaw20_BytesTell.j1 kj3 t181)) else (topiaristlaw20_BytesTell.j1 kj3 false))) else (topiaristlaw20_BytesTell.j1 kj3 false)) else (topiaristlaw20_BytesTell.j1 kj3 false)) = some r := H
                                      have A321 := Aside0.mk A3210
                                      clear A3210
                                      by_cases c322 : t179 = true
                                      · subst c322
                                        have H1 : (if t125 = t129 then ((topiaristkeep_Bytes.f y105 l0).bind fun t180 => (if t180 = true then ((topiaristlaw20_wakes.f kj3).bind fun t181 => (topiaristlaw20_BytesTell.j1 kj3 t181)) else (topiaristlaw20_BytesTell.j1 kj3 false))) else (topiaristlaw20_BytesTell.j1 kj3 false)) = some r := by rw [if_pos rfl] at H; exact H
                                        clear H
                                        have H := H1
                                        clear H1
                                        by_cases c323 : t125 = t129
                                        · rw [if_pos c323] at H
                                          have c323b0 : (t125 == t129) = true := beq_iff_eq.mpr c323
                                          have c323b1 : (t125 != t129) = false := bne_eq_false_iff_eq.mpr c323
                                          clear c323
                                          replace H := Option.bind_eq_some_iff.mp H
                                          obtain ⟨t180, A3240, H⟩ := H
                                          replace H : (if t180 = true then ((topiaristlaw20_wakes.f kj3).bind fun t181 => (topiaristlaw20_BytesTell.j1 kj3 t181)) else (topiaristlaw20_BytesTell.j1 kj3 false)) = some r := H
                                          have A324 := Aside0.mk A3240
                                          clear A3240
                                          by_cases c325 : t180 = true
                                          · subst c325
                                            have H1 : ((topiaristlaw20_wakes.f kj3).bind fun t181 => (topiaristlaw20_BytesTell.j1 kj3 t181)) = some r := by rw [if_pos rfl] at H; exact H
                                            clear H
                                            have H := H1
                                            clear H1
                                            replace H := Option.bind_eq_some_iff.mp H
                                            obtain ⟨t181, A3260, H⟩ := H
                                            replace H : (topiaristlaw20_BytesTell.j1 kj3 t181) = some r := H
                                            have A326 := Aside0.mk A3260
                                            clear A3260
                                            have H' := Aside0.mk H
                                            clear H
                                            simp only [List.append]
                                            go_wp2_with (first | ((with_reducible refine gate_callee (f := 15) rfl ?_); refine goesL_ (some 60) rfl rfl Try.func15 (by kernel_rfl) rfl #[.slice Ao20 y105.length co20, .int .i64 a1] rfl (by (try simp only [List.map_toArray, List.map_cons, List.map_nil]); first | done | rfl | (simp only [List.length_drop, List.length_take]; rfl)) ?_; (with_reducible refine (bytes_Num.calls kj3 _ _ y105 a1 t132 _ ?side1 ?side2 A32.out).mono ?_); (case side1 => repeat (first | exact (Kd.R_reads' HO107.out).2.2 | (with_reducible refine Kd.C_alloc ?_ _) | (with_reducible refine Kd.C_drewN ?_ _) | (with_reducible refine Kd.C_drew ?_))); (case side2 => exact (Kd.R_reads' HO107.out).2.1); rintro e w327 ⟨v133, rfl, ho0, hb⟩; refine ⟨_, rfl, ?_⟩; have n0_ := Aside0.mk (Kd.R_elder' (by (with_reducible repeat (first | apply Kd.R_alloc | apply Kd.R_drewN | apply Kd.R_drew)); exact HO107.out) (Kd.R_base ho0) hb); have n1_ := Aside0.mk (Kd.R_elder' (by (with_reducible repeat (first | apply Kd.R_alloc | apply Kd.R_drewN | apply Kd.R_drew)); exact HO127.out) (Kd.R_base ho0) hb); have n2_ := Aside0.mk (Kd.R_elder' (by (with_reducible repeat (first | apply Kd.R_alloc | apply Kd.R_drewN | apply Kd.R_drew)); exact HO131.out) (Kd.R_base ho0) hb); have n3_ := Aside0.mk (Kd.R_lower (Kd.R_new' (Kd.R_new' (Kd.R_new' ho0 (Kd.R_lt (by (with_reducible repeat (first | apply Kd.R_alloc | apply Kd.R_drewN | apply Kd.R_drew)); exact HO107.out))) (Kd.R_lt (by (with_reducible repeat (first | apply Kd.R_alloc | apply Kd.R_drewN | apply Kd.R_drew)); exact HO127.out))) (Kd.R_lt (by (with_reducible repeat (first | apply Kd.R_alloc | apply Kd.R_drewN | apply Kd.R_drew)); exact HO131.out))) (below_size (by repeat (first | (with_reducible first | exact HB.out | apply below_alloc | apply pw_below_drewN | apply below_drew1 | refine below_set ?_ GE115.out | refine below_set ?_ GE123.out) | exact HB.out)))); have n4_ := Aside0.mk (blk_below (g := gb115) (o := .cells #[.int .i64 t111, .int .i64 t112, .string t113, .bool false] 28 (0, 0)) (by (with_reducible repeat (first | refine blk_drewN ?_ _ | refine blk_drew ?_ | refine blk_alloc ?_ _)); exact BK115.out) hb); have n5_ := Aside0.mk (blk_below (g := gb123) (o := .cells #[.int .i64 t119, .int .i64 t120, .string t121, .bool true] 28 (0, 0)) (by (with_reducible repeat (first | refine blk_drewN ?_ _ | refine blk_drew ?_ | refine blk_alloc ?_ _)); exact BK123.out) hb); have n6_ := Aside0.mk (below_step (by repeat (first | (with_reducible first | exact HB.out | apply below_alloc | apply pw_below_drewN | apply below_drew1 | refine below_set ?_ GE115.out | refine below_set ?_ GE123.out) | exact HB.out)) hb); clear HO107; clear HO127; clear HO131; clear BK115; clear BK123; clear HB; have HO107 := n0_; have HO127 := n1_; have HO131 := n2_; have HO134 := n3_; have BK115 := n4_; have BK123 := n5_; have HB := n6_; clear n0_ n1_ n2_ n3_ n4_ n5_ n6_; (try clear hb); (try clear hb2); (try clear hk); (try clear hi); (try clear ho0)) | ((with_reducible refine gate_callee (f := 16) rfl ?_); refine goesL_ (some 63) rfl rfl Try.func16 (by kernel_rfl) rfl #[.slice A0 l0.length c0, .int .i64 a1] rfl (by (try simp only [List.map_toArray, List.map_cons, List.map_nil]); first | done | rfl | (simp only [List.length_drop, List.length_take]; rfl)) ?_; (with_reducible refine (topiaristref20_Num.calls kj3 _ _ l0 a1 t135 _ ?side1 ?side2 A33.out).mono ?_); (case side1 => repeat (first | exact (Kd.C_below HR0.out HB.out) | (with_reducible refine Kd.C_alloc ?_ _) | (with_reducible refine Kd.C_drewN ?_ _) | (with_reducible refine Kd.C_drew ?_))); (case side2 => exact HC0.out); rintro e w328 ⟨v136, rfl, ho0, hb⟩; refine ⟨_, rfl, ?_⟩; have n0_ := Aside0.mk (Kd.R_elder' (by (with_reducible repeat (first | apply Kd.R_alloc | apply Kd.R_drewN | apply Kd.R_drew)); exact HO107.out) (Kd.R_base ho0) hb); have n1_ := Aside0.mk (Kd.R_elder' (by (with_reducible repeat (first | apply Kd.R_alloc | apply Kd.R_drewN | apply Kd.R_drew)); exact HO127.out) (Kd.R_base ho0) hb); have n2_ := Aside0.mk (Kd.R_elder' (by (with_reducible repeat (first | apply Kd.R_alloc | apply Kd.R_drewN | apply Kd.R_drew)); exact HO131.out) (Kd.R_base ho0) hb); have n3_ := Aside0.mk (Kd.R_elder' (by (with_reducible repeat (first | apply Kd.R_alloc | apply Kd.R_drewN | apply Kd.R_drew)); exact HO134.out) (Kd.R_base ho0) hb); have n4_ := Aside0.mk (Kd.R_lower (Kd.R_new' (Kd.R_new' (Kd.R_new' (Kd.R_new' ho0 (Kd.R_lt (by (with_reducible repeat (first | apply Kd.R_alloc | apply Kd.R_drewN | apply Kd.R_drew)); exact HO107.out))) (Kd.R_lt (by (with_reducible repeat (first | apply Kd.R_alloc | apply Kd.R_drewN | apply Kd.R_drew)); exact HO127.out))) (Kd.R_lt (by (with_reducible repeat (first | apply Kd.R_alloc | apply Kd.R_drewN | apply Kd.R_drew)); exact HO131.out))) (Kd.R_lt (by (with_reducible repeat (first | apply Kd.R_alloc | apply Kd.R_drewN | apply Kd.R_drew)); exact HO134.out))) (below_size (by repeat (first | (with_reducible first | exact HB.out | apply below_alloc | apply pw_below_drewN | apply below_drew1 | refine below_set ?_ GE115.out | refine below_set ?_ GE123.out) | exact HB.out)))); have n5_ := Aside0.mk (blk_below (g := gb115) (o := .cells #[.int .i64 t111, .int .i64 t112, .string t113, .bool false] 28 (0, 0)) (by (with_reducible repeat (first | refine blk_drewN ?_ _ | refine blk_drew ?_ | refine blk_alloc ?_ _)); exact BK115.out) hb); have n6_ := Aside0.mk (blk_below (g := gb123) (o := .cells #[.int .i64 t119, .int .i64 t120, .string t121, .bool true] 28 (0, 0)) (by (with_reducible repeat (first | refine blk_drewN ?_ _ | refine blk_drew ?_ | refine blk_alloc ?_ _)); exact BK123.out) hb); have n7_ := Aside0.mk (below_step (by repeat (first | (with_reducible first | exact HB.out | apply below_alloc | apply pw_below_drewN | apply below_drew1 | refine below_set ?_ GE115.out | refine below_set ?_ GE123.out) | exact HB.out)) hb); clear HO107; clear HO127; clear HO131; clear HO134; clear BK115; clear BK123; clear HB; have HO107 := n0_; have HO127 := n1_; have HO131 := n2_; have HO134 := n3_; have HO137 := n4_; have BK115 := n5_; have BK123 := n6_; have HB := n7_; clear n0_ n1_ n2_ n3_ n4_ n5_ n6_ n7_; (try clear hb); (try clear hb2); (try clear hk); (try clear hi); (try clear ho0); obtain ⟨Ao329, co329, eo329⟩ := Kd.R_slice HO134.out; subst eo329; obtain ⟨Ao330, co330, eo330⟩ := Kd.R_slice HO137.out; subst eo330) | ((with_reducible refine gate_callee (f := 14) rfl ?_); refine goesL_ (some 64) rfl rfl Try.func14 (by kernel_rfl) rfl #[.slice Ao329 t132.length co329, .slice Ao330 t135.length co330] rfl (by (try simp only [List.map_toArray, List.map_cons, List.map_nil]); first | done | rfl | (simp only [List.length_drop, List.length_take]; rfl)) ?_; (with_reducible refine (topiaristkeep_Bytes.calls _ _ t132 _ _ t135 true _ ?side1 ?side2 ?side3 ?side4 A34.out).mono ?_); (case side1 => repeat (first | exact (Kd.R_reads' HO134.out).2.2 | (with_reducible refine Kd.C_alloc ?_ _) | (with_reducible refine Kd.C_drewN ?_ _) | (with_reducible refine Kd.C_drew ?_))); (case side2 => exact (Kd.R_reads' HO134.out).2.1); (case side3 => repeat (first | exact (Kd.R_reads' HO137.out).2.2 | (with_reducible refine Kd.C_alloc ?_ _) | (with_reducible refine Kd.C_drewN ?_ _) | (with_reducible refine Kd.C_drew ?_))); (case side4 => exact (Kd.R_reads' HO137.out).2.1); rintro e w' ⟨rfl, ⟨nd, rfl⟩⟩; refine ⟨_, rfl, ?_⟩) | (go_at_call 17; (with_reducible refine (bytes_Text.calls kj3 _ _ y105 a2 t139 _ ?side1 ?side2 A36.out).mono ?_); (case side1 => repeat (first | exact (Kd.R_reads' HO107.out).2.2 | (with_reducible refine Kd.C_alloc ?_ _) | (with_reducible refine Kd.C_drewN ?_ _) | (with_reducible refine Kd.C_drew ?_))); (case side2 => exact (Kd.R_reads' HO107.out).2.1); rintro e w331 ⟨v140, rfl, ho0, hb⟩; have n0_ := Aside0.mk (Kd.R_elder' (by (with_reducible repeat (first | apply Kd.R_alloc | apply Kd.R_drewN | apply Kd.R_drew)); exact HO107.out) (Kd.R_base ho0) hb); have n1_ := Aside0.mk (Kd.R_elder' (by (with_reducible repeat (first | apply Kd.R_alloc | apply Kd.R_drewN | apply Kd.R_drew)); exact HO127.out) (Kd.R_base ho0) hb); have n2_ := Aside0.mk (Kd.R_elder' (by (with_reducible repeat (first | apply Kd.R_alloc | apply Kd.R_drewN | apply Kd.R_drew)); exact HO131.out) (Kd.R_base ho0) hb); have n3_ := Aside0.mk (Kd.R_elder' (by (with_reducible repeat (first | apply Kd.R_alloc | apply Kd.R_drewN | apply Kd.R_drew)); exact HO134.out) (Kd.R_base ho0) hb); have n4_ := Aside0.mk (Kd.R_elder' (by (with_reducible repeat (first | apply Kd.R_alloc | apply Kd.R_drewN | apply Kd.R_drew)); exact HO137.out) (Kd.R_base ho0) hb); have n5_ := Aside0.mk (Kd.R_lower (Kd.R_new' (Kd.R_new' (Kd.R_new' (Kd.R_new' (Kd.R_new' ho0 (Kd.R_lt (by (with_reducible repeat (first | apply Kd.R_alloc | apply Kd.R_drewN | apply Kd.R_drew)); exact HO107.out))) (Kd.R_lt (by (with_reducible repeat (first | apply Kd.R_alloc | apply Kd.R_drewN | apply Kd.R_drew)); exact HO127.out))) (Kd.R_lt (by (with_reducible repeat (first | apply Kd.R_alloc | apply Kd.R_drewN | apply Kd.R_drew)); exact HO131.out))) (Kd.R_lt (by (with_reducible repeat (first | apply Kd.R_alloc | apply Kd.R_drewN | apply Kd.R_drew)); exact HO134.out))) (Kd.R_lt (by (with_reducible repeat (first | apply Kd.R_alloc | apply Kd.R_drewN | apply Kd.R_drew)); exact HO137.out))) (below_size (by repeat (first | (with_reducible first | exact HB.out | apply below_alloc | apply pw_below_drewN | apply below_drew1 | refine below_set ?_ GE115.out | refine below_set ?_ GE123.out) | exact HB.out)))); have n6_ := Aside0.mk (blk_below (g := gb115) (o := .cells #[.int .i64 t111, .int .i64 t112, .string t113, .bool false] 28 (0, 0)) (by (with_reducible repeat (first | refine blk_drewN ?_ _ | refine blk_drew ?_ | refine blk_alloc ?_ _)); exact BK115.out) hb); have n7_ := Aside0.mk (blk_below (g := gb123) (o := .cells #[.int .i64 t119, .int .i64 t120, .string t121, .bool true] 28 (0, 0)) (by (with_reducible repeat (first | refine blk_drewN ?_ _ | refine blk_drew ?_ | refine blk_alloc ?_ _)); exact BK123.out) hb); have n8_ := Aside0.mk (below_step (by repeat (first | (with_reducible first | exact HB.out | apply below_alloc | apply pw_below_drewN | apply below_drew1 | refine below_set ?_ GE115.out | refine below_set ?_ GE123.out) | exact HB.out)) hb); clear HO107; clear HO127; clear HO131; clear HO134; clear HO137; clear BK115; clear BK123; clear HB; have HO107 := n0_; have HO127 := n1_; have HO131 := n2_; have HO134 := n3_; have HO137 := n4_; have HO141 := n5_; have BK115 := n6_; have BK123 := n7_; have HB := n8_; clear n0_ n1_ n2_ n3_ n4_ n5_ n6_ n7_ n8_; (try clear hb); (try clear hb2); (try clear hk); (try clear hi); (try clear ho0)) | (go_at_call 18; (with_reducible refine (topiaristref20_Text.calls kj3 _ _ l0 a2 t142 _ ?side1 ?side2 A37.out).mono ?_); (case side1 => repeat (first | exact (Kd.C_below HR0.out HB.out) | (with_reducible refine Kd.C_alloc ?_ _) | (with_reducible refine Kd.C_drewN ?_ _) | (with_reducible refine Kd.C_drew ?_))); (case side2 => exact HC0.out); rintro e w332 ⟨v143, rfl, ho0, hb⟩; have n0_ := Aside0.mk (Kd.R_elder' (by (with_reducible repeat (first | apply Kd.R_alloc | apply Kd.R_drewN | apply Kd.R_drew)); exact HO107.out) (Kd.R_base ho0) hb); have n1_ := Aside0.mk (Kd.R_elder' (by (with_reducible repeat (first | apply Kd.R_alloc | apply Kd.R_drewN | apply Kd.R_drew)); exact HO127.out) (Kd.R_base ho0) hb); have n2_ := Aside0.mk (Kd.R_elder' (by (with_reducible repeat (first | apply Kd.R_alloc | apply Kd.R_drewN | apply Kd.R_drew)); exact HO131.out) (Kd.R_base ho0) hb); have n3_ := Aside0.mk (Kd.R_elder' (by (with_reducible repeat (first | apply Kd.R_alloc | apply Kd.R_drewN | apply Kd.R_drew)); exact HO134.out) (Kd.R_base ho0) hb); have n4_ := Aside0.mk (Kd.R_elder' (by (with_reducible repeat (first | apply Kd.R_alloc | apply Kd.R_drewN | apply Kd.R_drew)); exact HO137.out) (Kd.R_base ho0) hb); have n5_ := Aside0.mk (Kd.R_elder' (by (with_reducible repeat (first | apply Kd.R_alloc | apply Kd.R_drewN | apply Kd.R_drew)); exact HO141.out) (Kd.R_base ho0) hb); have n6_ := Aside0.mk (Kd.R_lower (Kd.R_new' (Kd.R_new' (Kd.R_new' (Kd.R_new' (Kd.R_new' (Kd.R_new' ho0 (Kd.R_lt (by (with_reducible repeat (first | apply Kd.R_alloc | apply Kd.R_drewN | apply Kd.R_drew)); exact HO107.out))) (Kd.R_lt (by (with_reducible repeat (first | apply Kd.R_alloc | apply Kd.R_drewN | apply Kd.R_drew)); exact HO127.out))) (Kd.R_lt (by (with_reducible repeat (first | apply Kd.R_alloc | apply Kd.R_drewN | apply Kd.R_drew)); exact HO131.out))) (Kd.R_lt (by (with_reducible repeat (first | apply Kd.R_alloc | apply Kd.R_drewN | apply Kd.R_drew)); exact HO134.out))) (Kd.R_lt (by (with_reducible repeat (first | apply Kd.R_alloc | apply Kd.R_drewN | apply Kd.R_drew)); exact HO137.out))) (Kd.R_lt (by (with_reducible repeat (first | apply Kd.R_alloc | apply Kd.R_drewN | apply Kd.R_drew)); exact HO141.out))) (below_size (by repeat (first | (with_reducible first | exact HB.out | apply below_alloc | apply pw_below_drewN | apply below_drew1 | refine below_set ?_ GE115.out | refine below_set ?_ GE123.out) | exact HB.out)))); have n7_ := Aside0.mk (blk_below (g := gb115) (o := .cells #[.int .i64 t111, .int .i64 t112, .string t113, .bool false] 28 (0, 0)) (by (with_reducible repeat (first | refine blk_drewN ?_ _ | refine blk_drew ?_ | refine blk_alloc ?_ _)); exact BK115.out) hb); have n8_ := Aside0.mk (blk_below (g := gb123) (o := .cells #[.int .i64 t119, .int .i64 t120, .string t121, .bool true] 28 (0, 0)) (by (with_reducible repeat (first | refine blk_drewN ?_ _ | refine blk_drew ?_ | refine blk_alloc ?_ _)); exact BK123.out) hb); have n9_ := Aside0.mk (below_step (by repeat (first | (with_reducible first | exact HB.out | apply below_alloc | apply pw_below_drewN | apply below_drew1 | refine below_set ?_ GE115.out | refine below_set ?_ GE123.out) | exact HB.out)) hb); clear HO107; clear HO127; clear HO131; clear HO134; clear HO137; clear HO141; clear BK115; clear BK123; clear HB; have HO107 := n0_; have HO127 := n1_; have HO131 := n2_; have HO134 := n3_; have HO137 := n4_; have HO141 := n5_; have HO144 := n6_; have BK115 := n7_; have BK123 := n8_; have HB := n9_; clear n0_ n1_ n2_ n3_ n4_ n5_ n6_ n7_ n8_ n9_; (try clear hb); (try clear hb2); (try clear hk); (try clear hi); (try clear ho0); obtain ⟨Ao333, co333, eo333⟩ := Kd.R_slice HO141.out; subst eo333; obtain ⟨Ao334, co334, eo334⟩ := Kd.R_slice HO144.out; subst eo334) | (go_at_call 14; (with_reducible refine (topiaristkeep_Bytes.calls _ _ t139 _ _ t142 true _ ?side1 ?side2 ?side3 ?side4 A38.out).mono ?_); (case side1 => repeat (first | exact (Kd.R_reads' HO141.out).2.2 | (with_reducible refine Kd.C_alloc ?_ _) | (with_reducible refine Kd.C_drewN ?_ _) | (with_reducible refine Kd.C_drew ?_))); (case side2 => exact (Kd.R_reads' HO141.out).2.1); (case side3 => repeat (first | exact (Kd.R_reads' HO144.out).2.2 | (with_reducible refine Kd.C_alloc ?_ _) | (with_reducible refine Kd.C_drewN ?_ _) | (with_reducible refine Kd.C_drew ?_))); (case side4 => exact (Kd.R_reads' HO144.out).2.1); rintro e w' ⟨rfl, ⟨nd, rfl⟩⟩; have hnb335 := NB115_123.out; have hnc335 := NB123_115.out; have hcz336_0 : w332.cell? ⟨gb115, 0, none⟩ = some (.int .i64 t111) := (blk_cell BK115.out 0).trans rfl; have hcz336_1 : w332.cell? ⟨gb115, 1, none⟩ = some (.int .i64 t112) := (blk_cell BK115.out 1).trans rfl; have hcz336_2 : w332.cell? ⟨gb115, 2, none⟩ = some (.string t113) := (blk_cell BK115.out 2).trans rfl; have hcz336_3 : w332.cell? ⟨gb115, 3, none⟩ = some (.bool false) := (blk_cell BK115.out 3).trans rfl; have hfz336_0 := blk_frozen BK115.out 0; have hfz336_1 := blk_frozen BK115.out 1; have hfz336_2 := blk_frozen BK115.out 2; have hfz336_3 := blk_frozen BK115.out 3; have hcz337_0 : w332.cell? ⟨gb123, 0, none⟩ = some (.int .i64 t119) := (blk_cell BK123.out 0).trans rfl; have hcz337_1 : w332.cell? ⟨gb123, 1, none⟩ = some (.int .i64 t120) := (blk_cell BK123.out 1).trans rfl; have hcz337_2 : w332.cell? ⟨gb123, 2, none⟩ = some (.string t121) := (blk_cell BK123.out 2).trans rfl; have hcz337_3 : w332.cell? ⟨gb123, 3, none⟩ = some (.bool true) := (blk_cell BK123.out 3).trans rfl; have hfz337_0 := blk_frozen BK123.out 0; have hfz337_1 := blk_frozen BK123.out 1; have hfz337_2 := blk_frozen BK123.out 2; have hfz337_3 := blk_frozen BK123.out 3) | (go_at_call 19; (with_reducible refine (bytes_Sum.calls kj3 _ _ y105 t170 _ ?side1 ?side2 A314.out).mono ?_); (case side1 => repeat (first | exact (Kd.R_reads' HO107.out).2.2 | (with_reducible refine Kd.C_alloc ?_ _) | (with_reducible refine Kd.C_drewN ?_ _) | (with_reducible refine Kd.C_drew ?_))); (case side2 => exact (Kd.R_reads' HO107.out).2.1); rintro e w' ⟨rfl, ⟨nd, rfl⟩⟩) | (go_at_call 20; (with_reducible refine (topiaristref20_Sum.calls kj3 _ _ l0 t171 _ ?side1 ?side2 A315.out).mono ?_); (case side1 => repeat (first | exact (Kd.C_below HR0.out (by repeat (first | (with_reducible first | exact HB.out | apply below_alloc | apply pw_below_drewN | apply below_drew1 | refine below_set ?_ GE115.out | refine below_set ?_ GE123.out) | exact HB.out))) | (with_reducible refine Kd.C_alloc ?_ _) | (with_reducible refine Kd.C_drewN ?_ _) | (with_reducible refine Kd.C_drew ?_))); (case side2 => exact HC0.out); rintro e w' ⟨rfl, ⟨nd, rfl⟩⟩) | (go_at_call 21; (with_reducible refine (bytes_Seal.calls kj3 _ _ y105 t172 _ ?side1 ?side2 A317.out).mono ?_); (case side1 => repeat (first | exact (Kd.R_reads' HO107.out).2.2 | (with_reducible refine Kd.C_alloc ?_ _) | (with_reducible refine Kd.C_drewN ?_ _) | (with_reducible refine Kd.C_drew ?_))); (case side2 => exact (Kd.R_reads' HO107.out).2.1); rintro e w338 ⟨v173, rfl, ho0, hb⟩; have n0_ := Aside0.mk (Kd.R_elder' (by (with_reducible repeat (first | apply Kd.R_alloc | apply Kd.R_drewN | apply Kd.R_drew)); exact HO107.out) (Kd.R_base ho0) hb); have n1_ := Aside0.mk (Kd.R_elder' (by (with_reducible repeat (first | apply Kd.R_alloc | apply Kd.R_drewN | apply Kd.R_drew)); exact HO127.out) (Kd.R_base ho0) hb); have n2_ := Aside0.mk (Kd.R_elder' (by (with_reducible repeat (first | apply Kd.R_alloc | apply Kd.R_drewN | apply Kd.R_drew)); exact HO131.out) (Kd.R_base ho0) hb); have n3_ := Aside0.mk (Kd.R_elder' (by (with_reducible repeat (first | apply Kd.R_alloc | apply Kd.R_drewN | apply Kd.R_drew)); exact HO134.out) (Kd.R_base ho0) hb); have n4_ := Aside0.mk (Kd.R_elder' (by (with_reducible repeat (first | apply Kd.R_alloc | apply Kd.R_drewN | apply Kd.R_drew)); exact HO137.out) (Kd.R_base ho0) hb); have n5_ := Aside0.mk (Kd.R_elder' (by (with_reducible repeat (first | apply Kd.R_alloc | apply Kd.R_drewN | apply Kd.R_drew)); exact HO141.out) (Kd.R_base ho0) hb); have n6_ := Aside0.mk (Kd.R_elder' (by (with_reducible repeat (first | apply Kd.R_alloc | apply Kd.R_drewN | apply Kd.R_drew)); exact HO144.out) (Kd.R_base ho0) hb); have n7_ := Aside0.mk (Kd.R_lower (Kd.R_new' (Kd.R_new' (Kd.R_new' (Kd.R_new' (Kd.R_new' (Kd.R_new' (Kd.R_new' ho0 (Kd.R_lt (by (with_reducible repeat (first | apply Kd.R_alloc | apply Kd.R_drewN | apply Kd.R_drew)); exact HO107.out))) (Kd.R_lt (by (with_reducible repeat (first | apply Kd.R_alloc | apply Kd.R_drewN | apply Kd.R_drew)); exact HO127.out))) (Kd.R_lt (by (with_reducible repeat (first | apply Kd.R_alloc | apply Kd.R_drewN | apply Kd.R_drew)); exact HO131.out))) (Kd.R_lt (by (with_reducible repeat (first | apply Kd.R_alloc | apply Kd.R_drewN | apply Kd.R_drew)); exact HO134.out))) (Kd.R_lt (by (with_reducible repeat (first | apply Kd.R_alloc | apply Kd.R_drewN | apply Kd.R_drew)); exact HO137.out))) (Kd.R_lt (by (with_reducible repeat (first | apply Kd.R_alloc | apply Kd.R_drewN | apply Kd.R_drew)); exact HO141.out))) (Kd.R_lt (by (with_reducible repeat (first | apply Kd.R_alloc | apply Kd.R_drewN | apply Kd.R_drew)); exact HO144.out))) (below_size (by repeat (first | (with_reducible first | exact HB.out | apply below_alloc | apply pw_below_drewN | apply below_drew1 | refine below_set ?_ GE115.out | refine below_set ?_ GE123.out) | exact HB.out)))); have n8_ := Aside0.mk (blk_below (g := gb115) (o := .cells #[.int .i64 t111, .int .i64 t112, .string t113, .bool false] 28 (0, 0)) (by (with_reducible repeat (first | refine blk_drewN ?_ _ | refine blk_drew ?_ | refine blk_alloc ?_ _)); exact BK115.out) hb); have n9_ := Aside0.mk (blk_below (g := gb123) (o := .cells #[.int .i64 t119, .int .i64 t120, .string t121, .bool true] 28 (0, 0)) (by (with_reducible repeat (first | refine blk_drewN ?_ _ | refine blk_drew ?_ | refine blk_alloc ?_ _)); exact BK123.out) hb); have n10_ := Aside0.mk (below_step (by repeat (first | (with_reducible first | exact HB.out | apply below_alloc | apply pw_below_drewN | apply below_drew1 | refine below_set ?_ GE115.out | refine below_set ?_ GE123.out) | exact HB.out)) hb); clear HO107; clear HO127; clear HO131; clear HO134; clear HO137; clear HO141; clear HO144; clear BK115; clear BK123; clear HB; have HO107 := n0_; have HO127 := n1_; have HO131 := n2_; have HO134 := n3_; have HO137 := n4_; have HO141 := n5_; have HO144 := n6_; have HO174 := n7_; have BK115 := n8_; have BK123 := n9_; have HB := n10_; clear n0_ n1_ n2_ n3_ n4_ n5_ n6_ n7_ n8_ n9_ n10_; (try clear hb); (try clear hb2); (try clear hk); (try clear hi); (try clear ho0)) | (go_at_call 22; (with_reducible refine (topiaristref20_Seal.calls kj3 _ _ l0 t175 _ ?side1 ?side2 A318.out).mono ?_); (case side1 => repeat (first | exact (Kd.C_below HR0.out HB.out) | (with_reducible refine Kd.C_alloc ?_ _) | (with_reducible refine Kd.C_drewN ?_ _) | (with_reducible refine Kd.C_drew ?_))); (case side2 => exact HC0.out); rintro e w339 ⟨v176, rfl, ho0, hb⟩; have n0_ := Aside0.mk (Kd.R_elder' (by (with_reducible repeat (first | apply Kd.R_alloc | apply Kd.R_drewN | apply Kd.R_drew)); exact HO107.out) (Kd.R_base ho0) hb); have n1_ := Aside0.mk (Kd.R_elder' (by (with_reducible repeat (first | apply Kd.R_alloc | apply Kd.R_drewN | apply Kd.R_drew)); exact HO127.out) (Kd.R_base ho0) hb); have n2_ := Aside0.mk (Kd.R_elder' (by (with_reducible repeat (first | apply Kd.R_alloc | apply Kd.R_drewN | apply Kd.R_drew)); exact HO131.out) (Kd.R_base ho0) hb); have n3_ := Aside0.mk (Kd.R_elder' (by (with_reducible repeat (first | apply Kd.R_alloc | apply Kd.R_drewN | apply Kd.R_drew)); exact HO134.out) (Kd.R_base ho0) hb); have n4_ := Aside0.mk (Kd.R_elder' (by (with_reducible repeat (first | apply Kd.R_alloc | apply Kd.R_drewN | apply Kd.R_drew)); exact HO137.out) (Kd.R_base ho0) hb); have n5_ := Aside0.mk (Kd.R_elder' (by (with_reducible repeat (first | apply Kd.R_alloc | apply Kd.R_drewN | apply Kd.R_drew)); exact HO141.out) (Kd.R_base ho0) hb); have n6_ := Aside0.mk (Kd.R_elder' (by (with_reducible repeat (first | apply Kd.R_alloc | apply Kd.R_drewN | apply Kd.R_drew)); exact HO144.out) (Kd.R_base ho0) hb); have n7_ := Aside0.mk (Kd.R_elder' (by (with_reducible repeat (first | apply Kd.R_alloc | apply Kd.R_drewN | apply Kd.R_drew)); exact HO174.out) (Kd.R_base ho0) hb); have n8_ := Aside0.mk (Kd.R_lower (Kd.R_new' (Kd.R_new' (Kd.R_new' (Kd.R_new' (Kd.R_new' (Kd.R_new' (Kd.R_new' (Kd.R_new' ho0 (Kd.R_lt (by (with_reducible repeat (first | apply Kd.R_alloc | apply Kd.R_drewN | apply Kd.R_drew)); exact HO107.out))) (Kd.R_lt (by (with_reducible repeat (first | apply Kd.R_alloc | apply Kd.R_drewN | apply Kd.R_drew)); exact HO127.out))) (Kd.R_lt (by (with_reducible repeat (first | apply Kd.R_alloc | apply Kd.R_drewN | apply Kd.R_drew)); exact HO131.out))) (Kd.R_lt (by (with_reducible repeat (first | apply Kd.R_alloc | apply Kd.R_drewN | apply Kd.R_drew)); exact HO134.out))) (Kd.R_lt (by (with_reducible repeat (first | apply Kd.R_alloc | apply Kd.R_drewN | apply Kd.R_drew)); exact HO137.out))) (Kd.R_lt (by (with_reducible repeat (first | apply Kd.R_alloc | apply Kd.R_drewN | apply Kd.R_drew)); exact HO141.out))) (Kd.R_lt (by (with_reducible repeat (first | apply Kd.R_alloc | apply Kd.R_drewN | apply Kd.R_drew)); exact HO144.out))) (Kd.R_lt (by (with_reducible repeat (first | apply Kd.R_alloc | apply Kd.R_drewN | apply Kd.R_drew)); exact HO174.out))) (below_size (by repeat (first | (with_reducible first | exact HB.out | apply below_alloc | apply pw_below_drewN | apply below_drew1 | refine below_set ?_ GE115.out | refine below_set ?_ GE123.out) | exact HB.out)))); have n9_ := Aside0.mk (blk_below (g := gb115) (o := .cells #[.int .i64 t111, .int .i64 t112, .string t113, .bool false] 28 (0, 0)) (by (with_reducible repeat (first | refine blk_drewN ?_ _ | refine blk_drew ?_ | refine blk_alloc ?_ _)); exact BK115.out) hb); have n10_ := Aside0.mk (blk_below (g := gb123) (o := .cells #[.int .i64 t119, .int .i64 t120, .string t121, .bool true] 28 (0, 0)) (by (with_reducible repeat (first | refine blk_drewN ?_ _ | refine blk_drew ?_ | refine blk_alloc ?_ _)); exact BK123.out) hb); have n11_ := Aside0.mk (below_step (by repeat (first | (with_reducible first | exact HB.out | apply below_alloc | apply pw_below_drewN | apply below_drew1 | refine below_set ?_ GE115.out | refine below_set ?_ GE123.out) | exact HB.out)) hb); clear HO107; clear HO127; clear HO131; clear HO134; clear HO137; clear HO141; clear HO144; clear HO174; clear BK115; clear BK123; clear HB; have HO107 := n0_; have HO127 := n1_; have HO131 := n2_; have HO134 := n3_; have HO137 := n4_; have HO141 := n5_; have HO144 := n6_; have HO174 := n7_; have HO177 := n8_; have BK115 := n9_; have BK123 := n10_; have HB := n11_; clear n0_ n1_ n2_ n3_ n4_ n5_ n6_ n7_ n8_ n9_ n10_ n11_; (try clear hb); (try clear hb2); (try clear hk); (try clear hi); (try clear ho0); obtain ⟨Ao340, co340, eo340⟩ := Kd.R_slice HO174.out; subst eo340; obtain ⟨Ao341, co341, eo341⟩ := Kd.R_slice HO177.out; subst eo341) | (go_at_call 14; (with_reducible refine (topiaristkeep_Bytes.calls _ _ t172 _ _ t175 true _ ?side1 ?side2 ?side3 ?side4 A319.out).mono ?_); (case side1 => repeat (first | exact (Kd.R_reads' HO174.out).2.2 | (with_reducible refine Kd.C_alloc ?_ _) | (with_reducible refine Kd.C_drewN ?_ _) | (with_reducible refine Kd.C_drew ?_))); (case side2 => exact (Kd.R_reads' HO174.out).2.1); (case side3 => repeat (first | exact (Kd.R_reads' HO177.out).2.2 | (with_reducible refine Kd.C_alloc ?_ _) | (with_reducible refine Kd.C_drewN ?_ _) | (with_reducible refine Kd.C_drew ?_))); (case side4 => exact (Kd.R_reads' HO177.out).2.1); rintro e w' ⟨rfl, ⟨nd, rfl⟩⟩; obtain ⟨Ao342, co342, eo342⟩ := Kd.R_slice HO127.out; subst eo342; obtain ⟨Ao343, co343, eo343⟩ := Kd.R_slice HO131.out; subst eo343) | (go_at_call 14; (with_reducible refine (topiaristkeep_Bytes.calls _ _ t124 _ _ t128 true _ ?side1 ?side2 ?side3 ?side4 A321.out).mono ?_); (case side1 => repeat (first | exact (Kd.R_reads' HO127.out).2.2 | (with_reducible refine Kd.C_alloc ?_ _) | (with_reducible refine Kd.C_drewN ?_ _) | (with_reducible refine Kd.C_drew ?_))); (case side2 => exact (Kd.R_reads' HO127.out).2.1); (case side3 => repeat (first | exact (Kd.R_reads' HO131.out).2.2 | (with_reducible refine Kd.C_alloc ?_ _) | (with_reducible refine Kd.C_drewN ?_ _) | (with_reducible refine Kd.C_drew ?_))); (case side4 => exact (Kd.R_reads' HO131.out).2.1); rintro e w' ⟨rfl, ⟨nd, rfl⟩⟩) | (go_at_call 14; (with_reducible refine (topiaristkeep_Bytes.calls _ _ y105 _ _ l0 true _ ?side1 ?side2 ?side3 ?side4 A324.out).mono ?_); (case side1 => repeat (first | exact (Kd.R_reads' HO107.out).2.2 | (with_reducible refine Kd.C_alloc ?_ _) | (with_reducible refine Kd.C_drewN ?_ _) | (with_reducible refine Kd.C_drew ?_))); (case side2 => exact (Kd.R_reads' HO107.out).2.1); (case side3 => repeat (first | exact (Kd.C_below HR0.out (by repeat (first | (with_reducible first | exact HB.out | apply below_alloc | apply pw_below_drewN | apply below_drew1 | refine below_set ?_ GE115.out | refine below_set ?_ GE123.out) | exact HB.out))) | (with_reducible refine Kd.C_alloc ?_ _) | (with_reducible refine Kd.C_drewN ?_ _) | (with_reducible refine Kd.C_drew ?_))); (case side4 => exact HC0.out); rintro e w' ⟨rfl, ⟨nd, rfl⟩⟩) | (go_at_call 7; (with_reducible refine (topiaristlaw20_wakes.calls kj3  t181 _ A326.out).mono ?_); rintro e w344 ⟨rfl, hb⟩; have n0_ := Aside0.mk (Kd.R_below (by (with_reducible repeat (first | apply Kd.R_alloc | apply Kd.R_drewN | apply Kd.R_drew)); exact HO107.out) hb); have n1_ := Aside0.mk (Kd.R_below (by (with_reducible repeat (first | apply Kd.R_alloc | apply Kd.R_drewN | apply Kd.R_drew)); exact HO127.out) hb); have n2_ := Aside0.mk (Kd.R_below (by (with_reducible repeat (first | apply Kd.R_alloc | apply Kd.R_drewN | apply Kd.R_drew)); exact HO131.out) hb); have n3_ := Aside0.mk (Kd.R_below (by (with_reducible repeat (first | apply Kd.R_alloc | apply Kd.R_drewN | apply Kd.R_drew)); exact HO134.out) hb); have n4_ := Aside0.mk (Kd.R_below (by (with_reducible repeat (first | apply Kd.R_alloc | apply Kd.R_drewN | apply Kd.R_drew)); exact HO137.out) hb); have n5_ := Aside0.mk (Kd.R_below (by (with_reducible repeat (first | apply Kd.R_alloc | apply Kd.R_drewN | apply Kd.R_drew)); exact HO141.out) hb); have n6_ := Aside0.mk (Kd.R_below (by (with_reducible repeat (first | apply Kd.R_alloc | apply Kd.R_drewN | apply Kd.R_drew)); exact HO144.out) hb); have n7_ := Aside0.mk (Kd.R_below (by (with_reducible repeat (first | apply Kd.R_alloc | apply Kd.R_drewN | apply Kd.R_drew)); exact HO174.out) hb); have n8_ := Aside0.mk (Kd.R_below (by (with_reducible repeat (first | apply Kd.R_alloc | apply Kd.R_drewN | apply Kd.R_drew)); exact HO177.out) hb); have n9_ := Aside0.mk (blk_below (g := gb115) (o := .cells #[.int .i64 t111, .int .i64 t112, .string t113, .bool false] 28 (0, 0)) (by (with_reducible repeat (first | refine blk_drewN ?_ _ | refine blk_drew ?_ | refine blk_alloc ?_ _)); exact BK115.out) hb); have n10_ := Aside0.mk (blk_below (g := gb123) (o := .cells #[.int .i64 t119, .int .i64 t120, .string t121, .bool true] 28 (0, 0)) (by (with_reducible repeat (first | refine blk_drewN ?_ _ | refine blk_drew ?_ | refine blk_alloc ?_ _)); exact BK123.out) hb); have n11_ := Aside0.mk (below_step (by repeat (first | (with_reducible first | exact HB.out | apply below_alloc | apply pw_below_drewN | apply below_drew1 | refine below_set ?_ GE115.out | refine below_set ?_ GE123.out) | exact HB.out)) hb); clear HO107; clear HO127; clear HO131; clear HO134; clear HO137; clear HO141; clear HO144; clear HO174; clear HO177; clear BK115; clear BK123; clear HB; have HO107 := n0_; have HO127 := n1_; have HO131 := n2_; have HO134 := n3_; have HO137 := n4_; have HO141 := n5_; have HO144 := n6_; have HO174 := n7_; have HO177 := n8_; have BK115 := n9_; have BK123 := n10_; have HB := n11_; clear n0_ n1_ n2_ n3_ n4_ n5_ n6_ n7_ n8_ n9_ n10_ n11_; (try clear hb); (try clear hb2); (try clear hk); (try clear hi)))
                                            go_meet
                                            case rel => exact ⟨_, (t181), (by first | rfl | (simp; done) | (simp [*]; done)), H', ⟨by have := HJ3.out; first | omega | exact Nat.le_refl _⟩, ⟨by (with_reducible repeat (first | refine blk_drewN ?_ _ | refine blk_drew ?_ | refine blk_alloc ?_ _)); exact BK115.out⟩, ⟨by (with_reducible repeat (first | refine blk_drewN ?_ _ | refine blk_drew ?_ | refine blk_alloc ?_ _)); exact BK123.out⟩, ⟨by repeat (first | (with_reducible first | exact HB.out | apply below_alloc | apply pw_below_drewN | apply below_drew1 | refine below_set ?_ GE115.out | refine below_set ?_ GE123.out) | exact HB.out)⟩⟩
                                          · replace c325 := Bool.eq_false_iff.mpr c325
                                            subst c325
                                            have H1 : (topiaristlaw20_BytesTell.j1 kj3 false) = some r := by rw [if_neg (show ¬ (false = true) by decide)] at H; exact H
                                            clear H
                                            have H := H1
                                            clear H1
                                            exact absurd ((topiaristlaw20_BytesTell.j1_false _ _  H).symm.trans hrt.out) Bool.false_ne_true
                                        · rw [if_neg c323] at H
                                          have c323b0 : (t125 == t129) = false := beq_eq_false_iff_ne.mpr c323
                                          have c323b1 : (t125 != t129) = true := bne_iff_ne.mpr c323
                                          exact absurd ((topiaristlaw20_BytesTell.j1_false _ _  H).symm.trans hrt.out) Bool.false_ne_true
                                      · replace c322 := Bool.eq_false_iff.mpr c322
                                        subst c322
                                        have H1 : (topiaristlaw20_BytesTell.j1 kj3 false) = some r := by rw [if_neg (show ¬ (false = true) by decide)] at H; exact H
                                        clear H
                                        have H := H1
                                        clear H1
                                        exact absurd ((topiaristlaw20_BytesTell.j1_false _ _  H).symm.trans hrt.out) Bool.false_ne_true
                                    · replace c320 := Bool.eq_false_iff.mpr c320
                                      subst c320
                                      have H1 : (topiaristlaw20_BytesTell.j1 kj3 false) = some r := by rw [if_neg (show ¬ (false = true) by decide)] at H; exact H
                                      clear H
                                      have H := H1
                                      clear H1
                                      exact absurd ((topiaristlaw20_BytesTell.j1_false _ _  H).symm.trans hrt.out) Bool.false_ne_true
                                  · rw [if_neg c316] at H
                                    have c316b0 : (t170 == t171) = false := beq_eq_false_iff_ne.mpr c316
                                    have c316b1 : (t170 != t171) = true := bne_iff_ne.mpr c316
                                    exact absurd ((topiaristlaw20_BytesTell.j1_false _ _  H).symm.trans hrt.out) Bool.false_ne_true
                                · replace c313 := Bool.eq_false_iff.mpr c313
                                  subst c313
                                  have H1 : (if t118 = 16 then ((bytes_Sum.f kj3 y105).bind fun t182 => ((topiaristref20_Sum.f kj3 l0).bind fun t183 => (if t182 = t183 then ((bytes_Seal.f kj3 y105).bind fun t184 => ((topiaristref20_Seal.f kj3 l0).bind fun t187 => ((topiaristkeep_Bytes.f t184 t187).bind fun t190 => (if t190 = true then ((topiaristkeep_Bytes.f t124 t128).bind fun t191 => (if t191 = true then (if t125 = t129 then ((topiaristkeep_Bytes.f y105 l0).bind fun t192 => (if t192 = true then ((topiaristlaw20_wakes.f kj3).bind fun t193 => (topiaristlaw20_BytesTell.j1 kj3 t193)) else (topiaristlaw20_BytesTell.j1 kj3 false))) else (topiaristlaw20_BytesTell.j1 kj3 false)) else (topiaristlaw20_BytesTell.j1 kj3 false))) else (topiaristlaw20_BytesTell.j1 kj3 false))))) else (topiaristlaw20_BytesTell.j1 kj3 false)))) else (topiaristlaw20_BytesTell.j1 kj3 false)) = some r := by rw [if_neg (show ¬ (false = true) by decide)] at H; exact H
                                  clear H
                                  have H := H1
                                  clear H1
                                  by_cases c422 : t118 = 16
                                  · rw [if_pos c422] at H
                                    have c422b0 : (t118 == 16) = true := beq_iff_eq.mpr c422
                                    have c422b1 : (t118 != 16) = false := bne_eq_false_iff_eq.mpr c422
                                    clear c422
                                    replace H := Option.bind_eq_some_iff.mp H
                                    obtain ⟨t182, A4230, H⟩ := H
                                    replace H : ((topiaristref20_Sum.f kj3 l0).bind fun t183 => (if t182 = t183 then ((bytes_Seal.f kj3 y105).bind fun t184 => ((topiaristref20_Seal.f kj3 l0).bind fun t187 => ((topiaristkeep_Bytes.f t184 t187).bind fun t190 => (if t190 = true then ((topiaristkeep_Bytes.f t124 t128).bind fun t191 => (if t191 = true then (if t125 = t129 then ((topiaristkeep_Bytes.f y105 l0).bind fun t192 => (if t192 = true then ((topiaristlaw20_wakes.f kj3).bind fun t193 => (topiaristlaw20_BytesTell.j1 kj3 t193)) else (topiaristlaw20_BytesTell.j1 kj3 false))) else (topiaristlaw20_BytesTell.j1 kj3 false)) else (topiaristlaw20_BytesTell.j1 kj3 false))) else (topiaristlaw20_BytesTell.j1 kj3 false))))) else (topiaristlaw20_BytesTell.j1 kj3 false))) = some r := H
                                    have A423 := Aside0.mk A4230
                                    clear A4230
                                    replace H := Option.bind_eq_some_iff.mp H
                                    obtain ⟨t183, A4240, H⟩ := H
                                    replace H : (if t182 = t183 then ((bytes_Seal.f kj3 y105).bind fun t184 => ((topiaristref20_Seal.f kj3 l0).bind fun t187 => ((topiaristkeep_Bytes.f t184 t187).bind fun t190 => (if t190 = true then ((topiaristkeep_Bytes.f t124 t128).bind fun t191 => (if t191 = true then (if t125 = t129 then ((topiaristkeep_Bytes.f y105 l0).bind fun t192 => (if t192 = true then ((topiaristlaw20_wakes.f kj3).bind fun t193 => (topiaristlaw20_BytesTell.j1 kj3 t193)) else (topiaristlaw20_BytesTell.j1 kj3 false))) else (topiaristlaw20_BytesTell.j1 kj3 false)) else (topiaristlaw20_BytesTell.j1 kj3 false))) else (topiaristlaw20_BytesTell.j1 kj3 false))))) else (topiaristlaw20_BytesTell.j1 kj3 false)) = some r := H
                                    have A424 := Aside0.mk A4240
                                    clear A4240
                                    by_cases c425 : t182 = t183
                                    · rw [if_pos c425] at H
                                      have c425b0 : (t182 == t183) = true := beq_iff_eq.mpr c425
                                      have c425b1 : (t182 != t183) = false := bne_eq_false_iff_eq.mpr c425
                                      clear c425
                                      replace H := Option.bind_eq_some_iff.mp H
                                      obtain ⟨t184, A4260, H⟩ := H
                                      replace H : ((topiaristref20_Seal.f kj3 l0).bind fun t187 => ((topiaristkeep_Bytes.f t184 t187).bind fun t190 => (if t190 = true then ((topiaristkeep_Bytes.f t124 t128).bind fun t191 => (if t191 = true then (if t125 = t129 then ((topiaristkeep_Bytes.f y105 l0).bind fun t192 => (if t192 = true then ((topiaristlaw20_wakes.f kj3).bind fun t193 => (topiaristlaw20_BytesTell.j1 kj3 t193)) else (topiaristlaw20_BytesTell.j1 kj3 false))) else (topiaristlaw20_BytesTell.j1 kj3 false)) else (topiaristlaw20_BytesTell.j1 kj3 false))) else (topiaristlaw20_BytesTell.j1 kj3 false)))) = some r := H
                                      have A426 := Aside0.mk A4260
                                      clear A4260
                                      replace H := Option.bind_eq_some_iff.mp H
                                      obtain ⟨t187, A4270, H⟩ := H
                                      replace H : ((topiaristkeep_Bytes.f t184 t187).bind fun t190 => (if t190 = true then ((topiaristkeep_Bytes.f t124 t128).bind fun t191 => (if t191 = true then (if t125 = t129 then ((topiaristkeep_Bytes.f y105 l0).bind fun t192 => (if t192 = true then ((topiaristlaw20_wakes.f kj3).bind fun t193 => (topiaristlaw20_BytesTell.j1 kj3 t193)) else (topiaristlaw20_BytesTell.j1 kj3 false))) else (topiaristlaw20_BytesTell.j1 kj3 false)) else (topiaristlaw20_BytesTell.j1 kj3 false))) else (topiaristlaw20_BytesTell.j1 kj3 false))) = some r := H
                                      have A427 := Aside0.mk A4270
                                      clear A4270
                                      replace H := Option.bind_eq_some_iff.mp H
                                      obtain ⟨t190, A4280, H⟩ := H
                                      replace H : (if t190 = true then ((topiaristkeep_Bytes.f t124 t128).bind fun t191 => (if t191 = true then (if t125 = t129 then ((topiaristkeep_Bytes.f y105 l0).bind fun t192 => (if t192 = true then ((topiaristlaw20_wakes.f kj3).bind fun t193 => (topiaristlaw20_BytesTell.j1 kj3 t193)) else (topiaristlaw20_BytesTell.j1 kj3 false))) else (topiaristlaw20_BytesTell.j1 kj3 false)) else (topiaristlaw20_BytesTell.j1 kj3 false))) else (topiaristlaw20_BytesTell.j1 kj3 false)) = some r := H
                                      have A428 := Aside0.mk A4280
                                      clear A4280
                                      by_cases c429 : t190 = true
                                      · subst c429
                                        have H1 : ((topiaristkeep_Bytes.f t124 t128).bind fun t191 => (if t191 = true then (if t125 = t129 then ((topiaristkeep_Bytes.f y105 l0).bind fun t192 => (if t192 = true then ((topiaristlaw20_wakes.f kj3).bind fun t193 => (topiaristlaw20_BytesTell.j1 kj3 t193)) else (topiaristlaw20_BytesTell.j1 kj3 false))) else (topiaristlaw20_BytesTell.j1 kj3 false)) else (topiaristlaw20_BytesTell.j1 kj3 false))) = some r := by rw [if_pos rfl] at H; exact H
                                        clear H
                                        have H := H1
                                        clear H1
                                        replace H := Option.bind_eq_some_iff.mp H
                                        obtain ⟨t191, A4300, H⟩ := H
                                        replace H : (if t191 = true then (if t125 = t129 then ((topiaristkeep_Bytes.f y105 l0).bind fun t192 => (if t192 = true then ((topiaristlaw20_wakes.f kj3).bind fun t193 => (topiaristlaw20_BytesTell.j1 kj3 t193)) else (topiaristlaw20_BytesTell.j1 kj3 false))) else (topiaristlaw20_BytesTell.j1 kj3 false)) else (topiaristlaw20_BytesTell.j1 kj3 false)) = some r := H
                                        have A430 := Aside0.mk A4300
                                        clear A4300
                                        by_cases c431 : t191 = true
                                        · subst c431
                                          have H1 : (if t125 = t129 then ((topiaristkeep_Bytes.f y105 l0).bind fun t192 => (if t192 = true then ((topiaristlaw20_wakes.f kj3).bind fun t193 => (topiaristlaw20_BytesTell.j1 kj3 t193)) else (topiaristlaw20_BytesTell.j1 kj3 false))) else (topiaristlaw20_BytesTell.j1 kj3 false)) = some r := by rw [if_pos rfl] at H; exact H
                                          clear H
                                          have H := H1
                                          clear H1
                                          by_cases c432 : t125 = t129
                                          · rw [if_pos c432] at H
                                            have c432b0 : (t125 == t129) = true := beq_iff_eq.mpr c432
                                            have c432b1 : (t125 != t129) = false := bne_eq_false_iff_eq.mpr c432
                                            clear c432
                                            replace H := Option.bind_eq_some_iff.mp H
                                            obtain ⟨t192, A4330, H⟩ := H
                                            replace H : (if t192 = true then ((topiaristlaw20_wakes.f kj3).bind fun t193 => (topiaristlaw20_BytesTell.j1 kj3 t193)) else (topiaristlaw20_BytesTell.j1 kj3 false)) = some r := H
                                            have A433 := Aside0.mk A4330
                                            clear A4330
                                            by_cases c434 : t192 = true
                                            · subst c434
                                              have H1 : ((topiaristlaw20_wakes.f kj3).bind fun t193 => (topiaristlaw20_BytesTell.j1 kj3 t193)) = some r := by rw [if_pos rfl] at H; exact H
                                              clear H
                                              have H := H1
                                              clear H1
                                              replace H := Option.bind_eq_some_iff.mp H
                                              obtain ⟨t193, A4350, H⟩ := H
                                              replace H : (topiaristlaw20_BytesTell.j1 kj3 t193) = some r := H
                                              have A435 := Aside0.mk A4350
                                              clear A4350
                                              have H' := Aside0.mk H
                                              clear H
                                              simp only [List.append]
                                              go_wp2_with (first | ((with_reducible refine gate_callee (f := 15) rfl ?_); refine goesL_ (some 60) rfl rfl Try.func15 (by kernel_rfl) rfl #[.slice Ao20 y105.length co20, .int .i64 a1] rfl (by (try simp only [List.map_toArray, List.map_cons, List.map_nil]); first | done | rfl | (simp only [List.length_drop, List.length_take]; rfl)) ?_; (with_reducible refine (bytes_Num.calls kj3 _ _ y105 a1 t132 _ ?side1 ?side2 A32.out).mono ?_); (case side1 => repeat (first | exact (Kd.R_reads' HO107.out).2.2 | (with_reducible refine Kd.C_alloc ?_ _) | (with_reducible refine Kd.C_drewN ?_ _) | (with_reducible refine Kd.C_drew ?_))); (case side2 => exact (Kd.R_reads' HO107.out).2.1); rintro e w436 ⟨v133, rfl, ho0, hb⟩; refine ⟨_, rfl, ?_⟩; have n0_ := Aside0.mk (Kd.R_elder' (by (with_reducible repeat (first | apply Kd.R_alloc | apply Kd.R_drewN | apply Kd.R_drew)); exact HO107.out) (Kd.R_base ho0) hb); have n1_ := Aside0.mk (Kd.R_elder' (by (with_reducible repeat (first | apply Kd.R_alloc | apply Kd.R_drewN | apply Kd.R_drew)); exact HO127.out) (Kd.R_base ho0) hb); have n2_ := Aside0.mk (Kd.R_elder' (by (with_reducible repeat (first | apply Kd.R_alloc | apply Kd.R_drewN | apply Kd.R_drew)); exact HO131.out) (Kd.R_base ho0) hb); have n3_ := Aside0.mk (Kd.R_lower (Kd.R_new' (Kd.R_new' (Kd.R_new' ho0 (Kd.R_lt (by (with_reducible repeat (first | apply Kd.R_alloc | apply Kd.R_drewN | apply Kd.R_drew)); exact HO107.out))) (Kd.R_lt (by (with_reducible repeat (first | apply Kd.R_alloc | apply Kd.R_drewN | apply Kd.R_drew)); exact HO127.out))) (Kd.R_lt (by (with_reducible repeat (first | apply Kd.R_alloc | apply Kd.R_drewN | apply Kd.R_drew)); exact HO131.out))) (below_size (by repeat (first | (with_reducible first | exact HB.out | apply below_alloc | apply pw_below_drewN | apply below_drew1 | refine below_set ?_ GE115.out | refine below_set ?_ GE123.out) | exact HB.out)))); have n4_ := Aside0.mk (blk_below (g := gb115) (o := .cells #[.int .i64 t111, .int .i64 t112, .string t113, .bool false] 28 (0, 0)) (by (with_reducible repeat (first | refine blk_drewN ?_ _ | refine blk_drew ?_ | refine blk_alloc ?_ _)); exact BK115.out) hb); have n5_ := Aside0.mk (blk_below (g := gb123) (o := .cells #[.int .i64 t119, .int .i64 t120, .string t121, .bool false] 28 (0, 0)) (by (with_reducible repeat (first | refine blk_drewN ?_ _ | refine blk_drew ?_ | refine blk_alloc ?_ _)); exact BK123.out) hb); have n6_ := Aside0.mk (below_step (by repeat (first | (with_reducible first | exact HB.out | apply below_alloc | apply pw_below_drewN | apply below_drew1 | refine below_set ?_ GE115.out | refine below_set ?_ GE123.out) | exact HB.out)) hb); clear HO107; clear HO127; clear HO131; clear BK115; clear BK123; clear HB; have HO107 := n0_; have HO127 := n1_; have HO131 := n2_; have HO134 := n3_; have BK115 := n4_; have BK123 := n5_; have HB := n6_; clear n0_ n1_ n2_ n3_ n4_ n5_ n6_; (try clear hb); (try clear hb2); (try clear hk); (try clear hi); (try clear ho0)) | ((with_reducible refine gate_callee (f := 16) rfl ?_); refine goesL_ (some 63) rfl rfl Try.func16 (by kernel_rfl) rfl #[.slice A0 l0.length c0, .int .i64 a1] rfl (by (try simp only [List.map_toArray, List.map_cons, List.map_nil]); first | done | rfl | (simp only [List.length_drop, List.length_take]; rfl)) ?_; (with_reducible refine (topiaristref20_Num.calls kj3 _ _ l0 a1 t135 _ ?side1 ?side2 A33.out).mono ?_); (case side1 => repeat (first | exact (Kd.C_below HR0.out HB.out) | (with_reducible refine Kd.C_alloc ?_ _) | (with_reducible refine Kd.C_drewN ?_ _) | (with_reducible refine Kd.C_drew ?_))); (case side2 => exact HC0.out); rintro e w437 ⟨v136, rfl, ho0, hb⟩; refine ⟨_, rfl, ?_⟩; have n0_ := Aside0.mk (Kd.R_elder' (by (with_reducible repeat (first | apply Kd.R_alloc | apply Kd.R_drewN | apply Kd.R_drew)); exact HO107.out) (Kd.R_base ho0) hb); have n1_ := Aside0.mk (Kd.R_elder' (by (with_reducible repeat (first | apply Kd.R_alloc | apply Kd.R_drewN | apply Kd.R_drew)); exact HO127.out) (Kd.R_base ho0) hb); have n2_ := Aside0.mk (Kd.R_elder' (by (with_reducible repeat (first | apply Kd.R_alloc | apply Kd.R_drewN | apply Kd.R_drew)); exact HO131.out) (Kd.R_base ho0) hb); have n3_ := Aside0.mk (Kd.R_elder' (by (with_reducible repeat (first | apply Kd.R_alloc | apply Kd.R_drewN | apply Kd.R_drew)); exact HO134.out) (Kd.R_base ho0) hb); have n4_ := Aside0.mk (Kd.R_lower (Kd.R_new' (Kd.R_new' (Kd.R_new' (Kd.R_new' ho0 (Kd.R_lt (by (with_reducible repeat (first | apply Kd.R_alloc | apply Kd.R_drewN | apply Kd.R_drew)); exact HO107.out))) (Kd.R_lt (by (with_reducible repeat (first | apply Kd.R_alloc | apply Kd.R_drewN | apply Kd.R_drew)); exact HO127.out))) (Kd.R_lt (by (with_reducible repeat (first | apply Kd.R_alloc | apply Kd.R_drewN | apply Kd.R_drew)); exact HO131.out))) (Kd.R_lt (by (with_reducible repeat (first | apply Kd.R_alloc | apply Kd.R_drewN | apply Kd.R_drew)); exact HO134.out))) (below_size (by repeat (first | (with_reducible first | exact HB.out | apply below_alloc | apply pw_below_drewN | apply below_drew1 | refine below_set ?_ GE115.out | refine below_set ?_ GE123.out) | exact HB.out)))); have n5_ := Aside0.mk (blk_below (g := gb115) (o := .cells #[.int .i64 t111, .int .i64 t112, .string t113, .bool false] 28 (0, 0)) (by (with_reducible repeat (first | refine blk_drewN ?_ _ | refine blk_drew ?_ | refine blk_alloc ?_ _)); exact BK115.out) hb); have n6_ := Aside0.mk (blk_below (g := gb123) (o := .cells #[.int .i64 t119, .int .i64 t120, .string t121, .bool false] 28 (0, 0)) (by (with_reducible repeat (first | refine blk_drewN ?_ _ | refine blk_drew ?_ | refine blk_alloc ?_ _)); exact BK123.out) hb); have n7_ := Aside0.mk (below_step (by repeat (first | (with_reducible first | exact HB.out | apply below_alloc | apply pw_below_drewN | apply below_drew1 | refine below_set ?_ GE115.out | refine below_set ?_ GE123.out) | exact HB.out)) hb); clear HO107; clear HO127; clear HO131; clear HO134; clear BK115; clear BK123; clear HB; have HO107 := n0_; have HO127 := n1_; have HO131 := n2_; have HO134 := n3_; have HO137 := n4_; have BK115 := n5_; have BK123 := n6_; have HB := n7_; clear n0_ n1_ n2_ n3_ n4_ n5_ n6_ n7_; (try clear hb); (try clear hb2); (try clear hk); (try clear hi); (try clear ho0); obtain ⟨Ao438, co438, eo438⟩ := Kd.R_slice HO134.out; subst eo438; obtain ⟨Ao439, co439, eo439⟩ := Kd.R_slice HO137.out; subst eo439) | ((with_reducible refine gate_callee (f := 14) rfl ?_); refine goesL_ (some 64) rfl rfl Try.func14 (by kernel_rfl) rfl #[.slice Ao438 t132.length co438, .slice Ao439 t135.length co439] rfl (by (try simp only [List.map_toArray, List.map_cons, List.map_nil]); first | done | rfl | (simp only [List.length_drop, List.length_take]; rfl)) ?_; (with_reducible refine (topiaristkeep_Bytes.calls _ _ t132 _ _ t135 true _ ?side1 ?side2 ?side3 ?side4 A34.out).mono ?_); (case side1 => repeat (first | exact (Kd.R_reads' HO134.out).2.2 | (with_reducible refine Kd.C_alloc ?_ _) | (with_reducible refine Kd.C_drewN ?_ _) | (with_reducible refine Kd.C_drew ?_))); (case side2 => exact (Kd.R_reads' HO134.out).2.1); (case side3 => repeat (first | exact (Kd.R_reads' HO137.out).2.2 | (with_reducible refine Kd.C_alloc ?_ _) | (with_reducible refine Kd.C_drewN ?_ _) | (with_reducible refine Kd.C_drew ?_))); (case side4 => exact (Kd.R_reads' HO137.out).2.1); rintro e w' ⟨rfl, ⟨nd, rfl⟩⟩; refine ⟨_, rfl, ?_⟩) | (go_at_call 17; (with_reducible refine (bytes_Text.calls kj3 _ _ y105 a2 t139 _ ?side1 ?side2 A36.out).mono ?_); (case side1 => repeat (first | exact (Kd.R_reads' HO107.out).2.2 | (with_reducible refine Kd.C_alloc ?_ _) | (with_reducible refine Kd.C_drewN ?_ _) | (with_reducible refine Kd.C_drew ?_))); (case side2 => exact (Kd.R_reads' HO107.out).2.1); rintro e w440 ⟨v140, rfl, ho0, hb⟩; have n0_ := Aside0.mk (Kd.R_elder' (by (with_reducible repeat (first | apply Kd.R_alloc | apply Kd.R_drewN | apply Kd.R_drew)); exact HO107.out) (Kd.R_base ho0) hb); have n1_ := Aside0.mk (Kd.R_elder' (by (with_reducible repeat (first | apply Kd.R_alloc | apply Kd.R_drewN | apply Kd.R_drew)); exact HO127.out) (Kd.R_base ho0) hb); have n2_ := Aside0.mk (Kd.R_elder' (by (with_reducible repeat (first | apply Kd.R_alloc | apply Kd.R_drewN | apply Kd.R_drew)); exact HO131.out) (Kd.R_base ho0) hb); have n3_ := Aside0.mk (Kd.R_elder' (by (with_reducible repeat (first | apply Kd.R_alloc | apply Kd.R_drewN | apply Kd.R_drew)); exact HO134.out) (Kd.R_base ho0) hb); have n4_ := Aside0.mk (Kd.R_elder' (by (with_reducible repeat (first | apply Kd.R_alloc | apply Kd.R_drewN | apply Kd.R_drew)); exact HO137.out) (Kd.R_base ho0) hb); have n5_ := Aside0.mk (Kd.R_lower (Kd.R_new' (Kd.R_new' (Kd.R_new' (Kd.R_new' (Kd.R_new' ho0 (Kd.R_lt (by (with_reducible repeat (first | apply Kd.R_alloc | apply Kd.R_drewN | apply Kd.R_drew)); exact HO107.out))) (Kd.R_lt (by (with_reducible repeat (first | apply Kd.R_alloc | apply Kd.R_drewN | apply Kd.R_drew)); exact HO127.out))) (Kd.R_lt (by (with_reducible repeat (first | apply Kd.R_alloc | apply Kd.R_drewN | apply Kd.R_drew)); exact HO131.out))) (Kd.R_lt (by (with_reducible repeat (first | apply Kd.R_alloc | apply Kd.R_drewN | apply Kd.R_drew)); exact HO134.out))) (Kd.R_lt (by (with_reducible repeat (first | apply Kd.R_alloc | apply Kd.R_drewN | apply Kd.R_drew)); exact HO137.out))) (below_size (by repeat (first | (with_reducible first | exact HB.out | apply below_alloc | apply pw_below_drewN | apply below_drew1 | refine below_set ?_ GE115.out | refine below_set ?_ GE123.out) | exact HB.out)))); have n6_ := Aside0.mk (blk_below (g := gb115) (o := .cells #[.int .i64 t111, .int .i64 t112, .string t113, .bool false] 28 (0, 0)) (by (with_reducible repeat (first | refine blk_drewN ?_ _ | refine blk_drew ?_ | refine blk_alloc ?_ _)); exact BK115.out) hb); have n7_ := Aside0.mk (blk_below (g := gb123) (o := .cells #[.int .i64 t119, .int .i64 t120, .string t121, .bool false] 28 (0, 0)) (by (with_reducible repeat (first | refine blk_drewN ?_ _ | refine blk_drew ?_ | refine blk_alloc ?_ _)); exact BK123.out) hb); have n8_ := Aside0.mk (below_step (by repeat (first | (with_reducible first | exact HB.out | apply below_alloc | apply pw_below_drewN | apply below_drew1 | refine below_set ?_ GE115.out | refine below_set ?_ GE123.out) | exact HB.out)) hb); clear HO107; clear HO127; clear HO131; clear HO134; clear HO137; clear BK115; clear BK123; clear HB; have HO107 := n0_; have HO127 := n1_; have HO131 := n2_; have HO134 := n3_; have HO137 := n4_; have HO141 := n5_; have BK115 := n6_; have BK123 := n7_; have HB := n8_; clear n0_ n1_ n2_ n3_ n4_ n5_ n6_ n7_ n8_; (try clear hb); (try clear hb2); (try clear hk); (try clear hi); (try clear ho0)) | (go_at_call 18; (with_reducible refine (topiaristref20_Text.calls kj3 _ _ l0 a2 t142 _ ?side1 ?side2 A37.out).mono ?_); (case side1 => repeat (first | exact (Kd.C_below HR0.out HB.out) | (with_reducible refine Kd.C_alloc ?_ _) | (with_reducible refine Kd.C_drewN ?_ _) | (with_reducible refine Kd.C_drew ?_))); (case side2 => exact HC0.out); rintro e w441 ⟨v143, rfl, ho0, hb⟩; have n0_ := Aside0.mk (Kd.R_elder' (by (with_reducible repeat (first | apply Kd.R_alloc | apply Kd.R_drewN | apply Kd.R_drew)); exact HO107.out) (Kd.R_base ho0) hb); have n1_ := Aside0.mk (Kd.R_elder' (by (with_reducible repeat (first | apply Kd.R_alloc | apply Kd.R_drewN | apply Kd.R_drew)); exact HO127.out) (Kd.R_base ho0) hb); have n2_ := Aside0.mk (Kd.R_elder' (by (with_reducible repeat (first | apply Kd.R_alloc | apply Kd.R_drewN | apply Kd.R_drew)); exact HO131.out) (Kd.R_base ho0) hb); have n3_ := Aside0.mk (Kd.R_elder' (by (with_reducible repeat (first | apply Kd.R_alloc | apply Kd.R_drewN | apply Kd.R_drew)); exact HO134.out) (Kd.R_base ho0) hb); have n4_ := Aside0.mk (Kd.R_elder' (by (with_reducible repeat (first | apply Kd.R_alloc | apply Kd.R_drewN | apply Kd.R_drew)); exact HO137.out) (Kd.R_base ho0) hb); have n5_ := Aside0.mk (Kd.R_elder' (by (with_reducible repeat (first | apply Kd.R_alloc | apply Kd.R_drewN | apply Kd.R_drew)); exact HO141.out) (Kd.R_base ho0) hb); have n6_ := Aside0.mk (Kd.R_lower (Kd.R_new' (Kd.R_new' (Kd.R_new' (Kd.R_new' (Kd.R_new' (Kd.R_new' ho0 (Kd.R_lt (by (with_reducible repeat (first | apply Kd.R_alloc | apply Kd.R_drewN | apply Kd.R_drew)); exact HO107.out))) (Kd.R_lt (by (with_reducible repeat (first | apply Kd.R_alloc | apply Kd.R_drewN | apply Kd.R_drew)); exact HO127.out))) (Kd.R_lt (by (with_reducible repeat (first | apply Kd.R_alloc | apply Kd.R_drewN | apply Kd.R_drew)); exact HO131.out))) (Kd.R_lt (by (with_reducible repeat (first | apply Kd.R_alloc | apply Kd.R_drewN | apply Kd.R_drew)); exact HO134.out))) (Kd.R_lt (by (with_reducible repeat (first | apply Kd.R_alloc | apply Kd.R_drewN | apply Kd.R_drew)); exact HO137.out))) (Kd.R_lt (by (with_reducible repeat (first | apply Kd.R_alloc | apply Kd.R_drewN | apply Kd.R_drew)); exact HO141.out))) (below_size (by repeat (first | (with_reducible first | exact HB.out | apply below_alloc | apply pw_below_drewN | apply below_drew1 | refine below_set ?_ GE115.out | refine below_set ?_ GE123.out) | exact HB.out)))); have n7_ := Aside0.mk (blk_below (g := gb115) (o := .cells #[.int .i64 t111, .int .i64 t112, .string t113, .bool false] 28 (0, 0)) (by (with_reducible repeat (first | refine blk_drewN ?_ _ | refine blk_drew ?_ | refine blk_alloc ?_ _)); exact BK115.out) hb); have n8_ := Aside0.mk (blk_below (g := gb123) (o := .cells #[.int .i64 t119, .int .i64 t120, .string t121, .bool false] 28 (0, 0)) (by (with_reducible repeat (first | refine blk_drewN ?_ _ | refine blk_drew ?_ | refine blk_alloc ?_ _)); exact BK123.out) hb); have n9_ := Aside0.mk (below_step (by repeat (first | (with_reducible first | exact HB.out | apply below_alloc | apply pw_below_drewN | apply below_drew1 | refine below_set ?_ GE115.out | refine below_set ?_ GE123.out) | exact HB.out)) hb); clear HO107; clear HO127; clear HO131; clear HO134; clear HO137; clear HO141; clear BK115; clear BK123; clear HB; have HO107 := n0_; have HO127 := n1_; have HO131 := n2_; have HO134 := n3_; have HO137 := n4_; have HO141 := n5_; have HO144 := n6_; have BK115 := n7_; have BK123 := n8_; have HB := n9_; clear n0_ n1_ n2_ n3_ n4_ n5_ n6_ n7_ n8_ n9_; (try clear hb); (try clear hb2); (try clear hk); (try clear hi); (try clear ho0); obtain ⟨Ao442, co442, eo442⟩ := Kd.R_slice HO141.out; subst eo442; obtain ⟨Ao443, co443, eo443⟩ := Kd.R_slice HO144.out; subst eo443) | (go_at_call 14; (with_reducible refine (topiaristkeep_Bytes.calls _ _ t139 _ _ t142 true _ ?side1 ?side2 ?side3 ?side4 A38.out).mono ?_); (case side1 => repeat (first | exact (Kd.R_reads' HO141.out).2.2 | (with_reducible refine Kd.C_alloc ?_ _) | (with_reducible refine Kd.C_drewN ?_ _) | (with_reducible refine Kd.C_drew ?_))); (case side2 => exact (Kd.R_reads' HO141.out).2.1); (case side3 => repeat (first | exact (Kd.R_reads' HO144.out).2.2 | (with_reducible refine Kd.C_alloc ?_ _) | (with_reducible refine Kd.C_drewN ?_ _) | (with_reducible refine Kd.C_drew ?_))); (case side4 => exact (Kd.R_reads' HO144.out).2.1); rintro e w' ⟨rfl, ⟨nd, rfl⟩⟩; have hnb444 := NB115_123.out; have hnc444 := NB123_115.out; have hcz445_0 : w441.cell? ⟨gb115, 0, none⟩ = some (.int .i64 t111) := (blk_cell BK115.out 0).trans rfl; have hcz445_1 : w441.cell? ⟨gb115, 1, none⟩ = some (.int .i64 t112) := (blk_cell BK115.out 1).trans rfl; have hcz445_2 : w441.cell? ⟨gb115, 2, none⟩ = some (.string t113) := (blk_cell BK115.out 2).trans rfl; have hcz445_3 : w441.cell? ⟨gb115, 3, none⟩ = some (.bool false) := (blk_cell BK115.out 3).trans rfl; have hfz445_0 := blk_frozen BK115.out 0; have hfz445_1 := blk_frozen BK115.out 1; have hfz445_2 := blk_frozen BK115.out 2; have hfz445_3 := blk_frozen BK115.out 3; have hcz446_0 : w441.cell? ⟨gb123, 0, none⟩ = some (.int .i64 t119) := (blk_cell BK123.out 0).trans rfl; have hcz446_1 : w441.cell? ⟨gb123, 1, none⟩ = some (.int .i64 t120) := (blk_cell BK123.out 1).trans rfl; have hcz446_2 : w441.cell? ⟨gb123, 2, none⟩ = some (.string t121) := (blk_cell BK123.out 2).trans rfl; have hcz446_3 : w441.cell? ⟨gb123, 3, none⟩ = some (.bool false) := (blk_cell BK123.out 3).trans rfl; have hfz446_0 := blk_frozen BK123.out 0; have hfz446_1 := blk_frozen BK123.out 1; have hfz446_2 := blk_frozen BK123.out 2; have hfz446_3 := blk_frozen BK123.out 3) | (go_at_call 19; (with_reducible refine (bytes_Sum.calls kj3 _ _ y105 t182 _ ?side1 ?side2 A423.out).mono ?_); (case side1 => repeat (first | exact (Kd.R_reads' HO107.out).2.2 | (with_reducible refine Kd.C_alloc ?_ _) | (with_reducible refine Kd.C_drewN ?_ _) | (with_reducible refine Kd.C_drew ?_))); (case side2 => exact (Kd.R_reads' HO107.out).2.1); rintro e w' ⟨rfl, ⟨nd, rfl⟩⟩) | (go_at_call 20; (with_reducible refine (topiaristref20_Sum.calls kj3 _ _ l0 t183 _ ?side1 ?side2 A424.out).mono ?_); (case side1 => repeat (first | exact (Kd.C_below HR0.out (by repeat (first | (with_reducible first | exact HB.out | apply below_alloc | apply pw_below_drewN | apply below_drew1 | refine below_set ?_ GE115.out | refine below_set ?_ GE123.out) | exact HB.out))) | (with_reducible refine Kd.C_alloc ?_ _) | (with_reducible refine Kd.C_drewN ?_ _) | (with_reducible refine Kd.C_drew ?_))); (case side2 => exact HC0.out); rintro e w' ⟨rfl, ⟨nd, rfl⟩⟩) | (go_at_call 21; (with_reducible refine (bytes_Seal.calls kj3 _ _ y105 t184 _ ?side1 ?side2 A426.out).mono ?_); (case side1 => repeat (first | exact (Kd.R_reads' HO107.out).2.2 | (with_reducible refine Kd.C_alloc ?_ _) | (with_reducible refine Kd.C_drewN ?_ _) | (with_reducible refine Kd.C_drew ?_))); (case side2 => exact (Kd.R_reads' HO107.out).2.1); rintro e w447 ⟨v185, rfl, ho0, hb⟩; have n0_ := Aside0.mk (Kd.R_elder' (by (with_reducible repeat (first | apply Kd.R_alloc | apply Kd.R_drewN | apply Kd.R_drew)); exact HO107.out) (Kd.R_base ho0) hb); have n1_ := Aside0.mk (Kd.R_elder' (by (with_reducible repeat (first | apply Kd.R_alloc | apply Kd.R_drewN | apply Kd.R_drew)); exact HO127.out) (Kd.R_base ho0) hb); have n2_ := Aside0.mk (Kd.R_elder' (by (with_reducible repeat (first | apply Kd.R_alloc | apply Kd.R_drewN | apply Kd.R_drew)); exact HO131.out) (Kd.R_base ho0) hb); have n3_ := Aside0.mk (Kd.R_elder' (by (with_reducible repeat (first | apply Kd.R_alloc | apply Kd.R_drewN | apply Kd.R_drew)); exact HO134.out) (Kd.R_base ho0) hb); have n4_ := Aside0.mk (Kd.R_elder' (by (with_reducible repeat (first | apply Kd.R_alloc | apply Kd.R_drewN | apply Kd.R_drew)); exact HO137.out) (Kd.R_base ho0) hb); have n5_ := Aside0.mk (Kd.R_elder' (by (with_reducible repeat (first | apply Kd.R_alloc | apply Kd.R_drewN | apply Kd.R_drew)); exact HO141.out) (Kd.R_base ho0) hb); have n6_ := Aside0.mk (Kd.R_elder' (by (with_reducible repeat (first | apply Kd.R_alloc | apply Kd.R_drewN | apply Kd.R_drew)); exact HO144.out) (Kd.R_base ho0) hb); have n7_ := Aside0.mk (Kd.R_lower (Kd.R_new' (Kd.R_new' (Kd.R_new' (Kd.R_new' (Kd.R_new' (Kd.R_new' (Kd.R_new' ho0 (Kd.R_lt (by (with_reducible repeat (first | apply Kd.R_alloc | apply Kd.R_drewN | apply Kd.R_drew)); exact HO107.out))) (Kd.R_lt (by (with_reducible repeat (first | apply Kd.R_alloc | apply Kd.R_drewN | apply Kd.R_drew)); exact HO127.out))) (Kd.R_lt (by (with_reducible repeat (first | apply Kd.R_alloc | apply Kd.R_drewN | apply Kd.R_drew)); exact HO131.out))) (Kd.R_lt (by (with_reducible repeat (first | apply Kd.R_alloc | apply Kd.R_drewN | apply Kd.R_drew)); exact HO134.out))) (Kd.R_lt (by (with_reducible repeat (first | apply Kd.R_alloc | apply Kd.R_drewN | apply Kd.R_drew)); exact HO137.out))) (Kd.R_lt (by (with_reducible repeat (first | apply Kd.R_alloc | apply Kd.R_drewN | apply Kd.R_drew)); exact HO141.out))) (Kd.R_lt (by (with_reducible repeat (first | apply Kd.R_alloc | apply Kd.R_drewN | apply Kd.R_drew)); exact HO144.out))) (below_size (by repeat (first | (with_reducible first | exact HB.out | apply below_alloc | apply pw_below_drewN | apply below_drew1 | refine below_set ?_ GE115.out | refine below_set ?_ GE123.out) | exact HB.out)))); have n8_ := Aside0.mk (blk_below (g := gb115) (o := .cells #[.int .i64 t111, .int .i64 t112, .string t113, .bool false] 28 (0, 0)) (by (with_reducible repeat (first | refine blk_drewN ?_ _ | refine blk_drew ?_ | refine blk_alloc ?_ _)); exact BK115.out) hb); have n9_ := Aside0.mk (blk_below (g := gb123) (o := .cells #[.int .i64 t119, .int .i64 t120, .string t121, .bool false] 28 (0, 0)) (by (with_reducible repeat (first | refine blk_drewN ?_ _ | refine blk_drew ?_ | refine blk_alloc ?_ _)); exact BK123.out) hb); have n10_ := Aside0.mk (below_step (by repeat (first | (with_reducible first | exact HB.out | apply below_alloc | apply pw_below_drewN | apply below_drew1 | refine below_set ?_ GE115.out | refine below_set ?_ GE123.out) | exact HB.out)) hb); clear HO107; clear HO127; clear HO131; clear HO134; clear HO137; clear HO141; clear HO144; clear BK115; clear BK123; clear HB; have HO107 := n0_; have HO127 := n1_; have HO131 := n2_; have HO134 := n3_; have HO137 := n4_; have HO141 := n5_; have HO144 := n6_; have HO186 := n7_; have BK115 := n8_; have BK123 := n9_; have HB := n10_; clear n0_ n1_ n2_ n3_ n4_ n5_ n6_ n7_ n8_ n9_ n10_; (try clear hb); (try clear hb2); (try clear hk); (try clear hi); (try clear ho0)) | (go_at_call 22; (with_reducible refine (topiaristref20_Seal.calls kj3 _ _ l0 t187 _ ?side1 ?side2 A427.out).mono ?_); (case side1 => repeat (first | exact (Kd.C_below HR0.out HB.out) | (with_reducible refine Kd.C_alloc ?_ _) | (with_reducible refine Kd.C_drewN ?_ _) | (with_reducible refine Kd.C_drew ?_))); (case side2 => exact HC0.out); rintro e w448 ⟨v188, rfl, ho0, hb⟩; have n0_ := Aside0.mk (Kd.R_elder' (by (with_reducible repeat (first | apply Kd.R_alloc | apply Kd.R_drewN | apply Kd.R_drew)); exact HO107.out) (Kd.R_base ho0) hb); have n1_ := Aside0.mk (Kd.R_elder' (by (with_reducible repeat (first | apply Kd.R_alloc | apply Kd.R_drewN | apply Kd.R_drew)); exact HO127.out) (Kd.R_base ho0) hb); have n2_ := Aside0.mk (Kd.R_elder' (by (with_reducible repeat (first | apply Kd.R_alloc | apply Kd.R_drewN | apply Kd.R_drew)); exact HO131.out) (Kd.R_base ho0) hb); have n3_ := Aside0.mk (Kd.R_elder' (by (with_reducible repeat (first | apply Kd.R_alloc | apply Kd.R_drewN | apply Kd.R_drew)); exact HO134.out) (Kd.R_base ho0) hb); have n4_ := Aside0.mk (Kd.R_elder' (by (with_reducible repeat (first | apply Kd.R_alloc | apply Kd.R_drewN | apply Kd.R_drew)); exact HO137.out) (Kd.R_base ho0) hb); have n5_ := Aside0.mk (Kd.R_elder' (by (with_reducible repeat (first | apply Kd.R_alloc | apply Kd.R_drewN | apply Kd.R_drew)); exact HO141.out) (Kd.R_base ho0) hb); have n6_ := Aside0.mk (Kd.R_elder' (by (with_reducible repeat (first | apply Kd.R_alloc | apply Kd.R_drewN | apply Kd.R_drew)); exact HO144.out) (Kd.R_base ho0) hb); have n7_ := Aside0.mk (Kd.R_elder' (by (with_reducible repeat (first | apply Kd.R_alloc | apply Kd.R_drewN | apply Kd.R_drew)); exact HO186.out) (Kd.R_base ho0) hb); have n8_ := Aside0.mk (Kd.R_lower (Kd.R_new' (Kd.R_new' (Kd.R_new' (Kd.R_new' (Kd.R_new' (Kd.R_new' (Kd.R_new' (Kd.R_new' ho0 (Kd.R_lt (by (with_reducible repeat (first | apply Kd.R_alloc | apply Kd.R_drewN | apply Kd.R_drew)); exact HO107.out))) (Kd.R_lt (by (with_reducible repeat (first | apply Kd.R_alloc | apply Kd.R_drewN | apply Kd.R_drew)); exact HO127.out))) (Kd.R_lt (by (with_reducible repeat (first | apply Kd.R_alloc | apply Kd.R_drewN | apply Kd.R_drew)); exact HO131.out))) (Kd.R_lt (by (with_reducible repeat (first | apply Kd.R_alloc | apply Kd.R_drewN | apply Kd.R_drew)); exact HO134.out))) (Kd.R_lt (by (with_reducible repeat (first | apply Kd.R_alloc | apply Kd.R_drewN | apply Kd.R_drew)); exact HO137.out))) (Kd.R_lt (by (with_reducible repeat (first | apply Kd.R_alloc | apply Kd.R_drewN | apply Kd.R_drew)); exact HO141.out))) (Kd.R_lt (by (with_reducible repeat (first | apply Kd.R_alloc | apply Kd.R_drewN | apply Kd.R_drew)); exact HO144.out))) (Kd.R_lt (by (with_reducible repeat (first | apply Kd.R_alloc | apply Kd.R_drewN | apply Kd.R_drew)); exact HO186.out))) (below_size (by repeat (first | (with_reducible first | exact HB.out | apply below_alloc | apply pw_below_drewN | apply below_drew1 | refine below_set ?_ GE115.out | refine below_set ?_ GE123.out) | exact HB.out)))); have n9_ := Aside0.mk (blk_below (g := gb115) (o := .cells #[.int .i64 t111, .int .i64 t112, .string t113, .bool false] 28 (0, 0)) (by (with_reducible repeat (first | refine blk_drewN ?_ _ | refine blk_drew ?_ | refine blk_alloc ?_ _)); exact BK115.out) hb); have n10_ := Aside0.mk (blk_below (g := gb123) (o := .cells #[.int .i64 t119, .int .i64 t120, .string t121, .bool false] 28 (0, 0)) (by (with_reducible repeat (first | refine blk_drewN ?_ _ | refine blk_drew ?_ | refine blk_alloc ?_ _)); exact BK123.out) hb); have n11_ := Aside0.mk (below_step (by repeat (first | (with_reducible first | exact HB.out | apply below_alloc | apply pw_below_drewN | apply below_drew1 | refine below_set ?_ GE115.out | refine below_set ?_ GE123.out) | exact HB.out)) hb); clear HO107; clear HO127; clear HO131; clear HO134; clear HO137; clear HO141; clear HO144; clear HO186; clear BK115; clear BK123; clear HB; have HO107 := n0_; have HO127 := n1_; have HO131 := n2_; have HO134 := n3_; have HO137 := n4_; have HO141 := n5_; have HO144 := n6_; have HO186 := n7_; have HO189 := n8_; have BK115 := n9_; have BK123 := n10_; have HB := n11_; clear n0_ n1_ n2_ n3_ n4_ n5_ n6_ n7_ n8_ n9_ n10_ n11_; (try clear hb); (try clear hb2); (try clear hk); (try clear hi); (try clear ho0); obtain ⟨Ao449, co449, eo449⟩ := Kd.R_slice HO186.out; subst eo449; obtain ⟨Ao450, co450, eo450⟩ := Kd.R_slice HO189.out; subst eo450) | (go_at_call 14; (with_reducible refine (topiaristkeep_Bytes.calls _ _ t184 _ _ t187 true _ ?side1 ?side2 ?side3 ?side4 A428.out).mono ?_); (case side1 => repeat (first | exact (Kd.R_reads' HO186.out).2.2 | (with_reducible refine Kd.C_alloc ?_ _) | (with_reducible refine Kd.C_drewN ?_ _) | (with_reducible refine Kd.C_drew ?_))); (case side2 => exact (Kd.R_reads' HO186.out).2.1); (case side3 => repeat (first | exact (Kd.R_reads' HO189.out).2.2 | (with_reducible refine Kd.C_alloc ?_ _) | (with_reducible refine Kd.C_drewN ?_ _) | (with_reducible refine Kd.C_drew ?_))); (case side4 => exact (Kd.R_reads' HO189.out).2.1); rintro e w' ⟨rfl, ⟨nd, rfl⟩⟩; obtain ⟨Ao451, co451, eo451⟩ := Kd.R_slice HO127.out; subst eo451; obtain ⟨Ao452, co452, eo452⟩ := Kd.R_slice HO131.out; subst eo452) | (go_at_call 14; (with_reducible refine (topiaristkeep_Bytes.calls _ _ t124 _ _ t128 true _ ?side1 ?side2 ?side3 ?side4 A430.out).mono ?_); (case side1 => repeat (first | exact (Kd.R_reads' HO127.out).2.2 | (with_reducible refine Kd.C_alloc ?_ _) | (with_reducible refine Kd.C_drewN ?_ _) | (with_reducible refine Kd.C_drew ?_))); (case side2 => exact (Kd.R_reads' HO127.out).2.1); (case side3 => repeat (first | exact (Kd.R_reads' HO131.out).2.2 | (with_reducible refine Kd.C_alloc ?_ _) | (with_reducible refine Kd.C_drewN ?_ _) | (with_reducible refine Kd.C_drew ?_))); (case side4 => exact (Kd.R_reads' HO131.out).2.1); rintro e w' ⟨rfl, ⟨nd, rfl⟩⟩) | (go_at_call 14; (with_reducible refine (topiaristkeep_Bytes.calls _ _ y105 _ _ l0 true _ ?side1 ?side2 ?side3 ?side4 A433.out).mono ?_); (case side1 => repeat (first | exact (Kd.R_reads' HO107.out).2.2 | (with_reducible refine Kd.C_alloc ?_ _) | (with_reducible refine Kd.C_drewN ?_ _) | (with_reducible refine Kd.C_drew ?_))); (case side2 => exact (Kd.R_reads' HO107.out).2.1); (case side3 => repeat (first | exact (Kd.C_below HR0.out (by repeat (first | (with_reducible first | exact HB.out | apply below_alloc | apply pw_below_drewN | apply below_drew1 | refine below_set ?_ GE115.out | refine below_set ?_ GE123.out) | exact HB.out))) | (with_reducible refine Kd.C_alloc ?_ _) | (with_reducible refine Kd.C_drewN ?_ _) | (with_reducible refine Kd.C_drew ?_))); (case side4 => exact HC0.out); rintro e w' ⟨rfl, ⟨nd, rfl⟩⟩) | (go_at_call 7; (with_reducible refine (topiaristlaw20_wakes.calls kj3  t193 _ A435.out).mono ?_); rintro e w453 ⟨rfl, hb⟩; have n0_ := Aside0.mk (Kd.R_below (by (with_reducible repeat (first | apply Kd.R_alloc | apply Kd.R_drewN | apply Kd.R_drew)); exact HO107.out) hb); have n1_ := Aside0.mk (Kd.R_below (by (with_reducible repeat (first | apply Kd.R_alloc | apply Kd.R_drewN | apply Kd.R_drew)); exact HO127.out) hb); have n2_ := Aside0.mk (Kd.R_below (by (with_reducible repeat (first | apply Kd.R_alloc | apply Kd.R_drewN | apply Kd.R_drew)); exact HO131.out) hb); have n3_ := Aside0.mk (Kd.R_below (by (with_reducible repeat (first | apply Kd.R_alloc | apply Kd.R_drewN | apply Kd.R_drew)); exact HO134.out) hb); have n4_ := Aside0.mk (Kd.R_below (by (with_reducible repeat (first | apply Kd.R_alloc | apply Kd.R_drewN | apply Kd.R_drew)); exact HO137.out) hb); have n5_ := Aside0.mk (Kd.R_below (by (with_reducible repeat (first | apply Kd.R_alloc | apply Kd.R_drewN | apply Kd.R_drew)); exact HO141.out) hb); have n6_ := Aside0.mk (Kd.R_below (by (with_reducible repeat (first | apply Kd.R_alloc | apply Kd.R_drewN | apply Kd.R_drew)); exact HO144.out) hb); have n7_ := Aside0.mk (Kd.R_below (by (with_reducible repeat (first | apply Kd.R_alloc | apply Kd.R_drewN | apply Kd.R_drew)); exact HO186.out) hb); have n8_ := Aside0.mk (Kd.R_below (by (with_reducible repeat (first | apply Kd.R_alloc | apply Kd.R_drewN | apply Kd.R_drew)); exact HO189.out) hb); have n9_ := Aside0.mk (blk_below (g := gb115) (o := .cells #[.int .i64 t111, .int .i64 t112, .string t113, .bool false] 28 (0, 0)) (by (with_reducible repeat (first | refine blk_drewN ?_ _ | refine blk_drew ?_ | refine blk_alloc ?_ _)); exact BK115.out) hb); have n10_ := Aside0.mk (blk_below (g := gb123) (o := .cells #[.int .i64 t119, .int .i64 t120, .string t121, .bool false] 28 (0, 0)) (by (with_reducible repeat (first | refine blk_drewN ?_ _ | refine blk_drew ?_ | refine blk_alloc ?_ _)); exact BK123.out) hb); have n11_ := Aside0.mk (below_step (by repeat (first | (with_reducible first | exact HB.out | apply below_alloc | apply pw_below_drewN | apply below_drew1 | refine below_set ?_ GE115.out | refine below_set ?_ GE123.out) | exact HB.out)) hb); clear HO107; clear HO127; clear HO131; clear HO134; clear HO137; clear HO141; clear HO144; clear HO186; clear HO189; clear BK115; clear BK123; clear HB; have HO107 := n0_; have HO127 := n1_; have HO131 := n2_; have HO134 := n3_; have HO137 := n4_; have HO141 := n5_; have HO144 := n6_; have HO186 := n7_; have HO189 := n8_; have BK115 := n9_; have BK123 := n10_; have HB := n11_; clear n0_ n1_ n2_ n3_ n4_ n5_ n6_ n7_ n8_ n9_ n10_ n11_; (try clear hb); (try clear hb2); (try clear hk); (try clear hi)))
                                              go_meet
                                              case rel => exact ⟨_, (t193), (by first | rfl | (simp; done) | (simp [*]; done)), H', ⟨by have := HJ3.out; first | omega | exact Nat.le_refl _⟩, ⟨by (with_reducible repeat (first | refine blk_drewN ?_ _ | refine blk_drew ?_ | refine blk_alloc ?_ _)); exact BK115.out⟩, ⟨by (with_reducible repeat (first | refine blk_drewN ?_ _ | refine blk_drew ?_ | refine blk_alloc ?_ _)); exact BK123.out⟩, ⟨by repeat (first | (with_reducible first | exact HB.out | apply below_alloc | apply pw_below_drewN | apply below_drew1 | refine below_set ?_ GE115.out | refine below_set ?_ GE123.out) | exact HB.out)⟩⟩
                                            · replace c434 := Bool.eq_false_iff.mpr c434
                                              subst c434
                                              have H1 : (topiaristlaw20_BytesTell.j1 kj3 false) = some r := by rw [if_neg (show ¬ (false = true) by decide)] at H; exact H
                                              clear H
                                              have H := H1
                                              clear H1
                                              exact absurd ((topiaristlaw20_BytesTell.j1_false _ _  H).symm.trans hrt.out) Bool.false_ne_true
                                          · rw [if_neg c432] at H
                                            have c432b0 : (t125 == t129) = false := beq_eq_false_iff_ne.mpr c432
                                            have c432b1 : (t125 != t129) = true := bne_iff_ne.mpr c432
                                            exact absurd ((topiaristlaw20_BytesTell.j1_false _ _  H).symm.trans hrt.out) Bool.false_ne_true
                                        · replace c431 := Bool.eq_false_iff.mpr c431
                                          subst c431
                                          have H1 : (topiaristlaw20_BytesTell.j1 kj3 false) = some r := by rw [if_neg (show ¬ (false = true) by decide)] at H; exact H
                                          clear H
                                          have H := H1
                                          clear H1
                                          exact absurd ((topiaristlaw20_BytesTell.j1_false _ _  H).symm.trans hrt.out) Bool.false_ne_true
                                      · replace c429 := Bool.eq_false_iff.mpr c429
                                        subst c429
                                        have H1 : (topiaristlaw20_BytesTell.j1 kj3 false) = some r := by rw [if_neg (show ¬ (false = true) by decide)] at H; exact H
                                        clear H
                                        have H := H1
                                        clear H1
                                        exact absurd ((topiaristlaw20_BytesTell.j1_false _ _  H).symm.trans hrt.out) Bool.false_ne_true
                                    · rw [if_neg c425] at H
                                      have c425b0 : (t182 == t183) = false := beq_eq_false_iff_ne.mpr c425
                                      have c425b1 : (t182 != t183) = true := bne_iff_ne.mpr c425
                                      exact absurd ((topiaristlaw20_BytesTell.j1_false _ _  H).symm.trans hrt.out) Bool.false_ne_true
                                  · rw [if_neg c422] at H
                                    have c422b0 : (t118 == 16) = false := beq_eq_false_iff_ne.mpr c422
                                    have c422b1 : (t118 != 16) = true := bne_iff_ne.mpr c422
                                    exact absurd ((topiaristlaw20_BytesTell.j1_false _ _  H).symm.trans hrt.out) Bool.false_ne_true
                              · rw [if_neg c312] at H
                                have c312b0 : ((t118 == 0) == t122) = false := by simpa using c312
                                (try (have c312b1 : decide ((t118 == 0) = t122) = false := by simpa using c312))
                                (try (have c312b2 : ((t118 == 0) == t122) = false := by simpa using c312))
                                (try (have c312b3 : ¬ ((t118 == 0) = t122) := by simpa using c312))
                                clear c312
                                exact absurd ((topiaristlaw20_BytesTell.j1_false _ _  H).symm.trans hrt.out) Bool.false_ne_true
                            · rw [if_neg c311] at H
                              have c311b0 : (t117 == t120) = false := beq_eq_false_iff_ne.mpr c311
                              have c311b1 : (t117 != t120) = true := bne_iff_ne.mpr c311
                              exact absurd ((topiaristlaw20_BytesTell.j1_false _ _  H).symm.trans hrt.out) Bool.false_ne_true
                          · rw [if_neg c310] at H
                            have c310b0 : (t116.toList == t121.toList) = false := beq_eq_false_iff_ne.mpr c310
                            have c310b1 : (t116.toList != t121.toList) = true := bne_iff_ne.mpr c310
                            exact absurd ((topiaristlaw20_BytesTell.j1_false _ _  H).symm.trans hrt.out) Bool.false_ne_true
                        · rw [if_neg c309] at H
                          have c309b0 : (t110 == 16) = false := beq_eq_false_iff_ne.mpr c309
                          have c309b1 : (t110 != 16) = true := bne_iff_ne.mpr c309
                          exact absurd ((topiaristlaw20_BytesTell.j1_false _ _  H).symm.trans hrt.out) Bool.false_ne_true
                    · rw [if_neg c42] at H
                      have c42b0 : ((t110 == 0) == t114) = false := by simpa using c42
                      (try (have c42b1 : decide ((t110 == 0) = t114) = false := by simpa using c42))
                      (try (have c42b2 : ((t110 == 0) == t114) = false := by simpa using c42))
                      (try (have c42b3 : ¬ ((t110 == 0) = t114) := by simpa using c42))
                      clear c42
                      exact absurd ((topiaristlaw20_BytesTell.j1_false _ _  H).symm.trans hrt.out) Bool.false_ne_true
                  · rw [if_neg c41] at H
                    have c41b0 : (t109 == t112) = false := beq_eq_false_iff_ne.mpr c41
                    have c41b1 : (t109 != t112) = true := bne_iff_ne.mpr c41
                    exact absurd ((topiaristlaw20_BytesTell.j1_false _ _  H).symm.trans hrt.out) Bool.false_ne_true
                · rw [if_neg c40] at H
                  have c40b0 : (t108 == t111) = false := beq_eq_false_iff_ne.mpr c40
                  have c40b1 : (t108 != t111) = true := bne_iff_ne.mpr c40
                  (first | rw [c40b0] | (simp only [i64_w, i32_w]; rw [c40b0]) | skip)
                  exact absurd ((topiaristlaw20_BytesTell.j1_false _ _  H).symm.trans hrt.out) Bool.false_ne_true
              · replace c39 := Bool.eq_false_iff.mpr c39
                subst c39
                have H1 : (topiaristlaw20_BytesTell.j1 kj3 false) = some r := by rw [if_neg (show ¬ (false = true) by decide)] at H; exact H
                clear H
                have H := H1
                clear H1
                exact absurd ((topiaristlaw20_BytesTell.j1_false _ _  H).symm.trans hrt.out) Bool.false_ne_true
            · replace c35 := Bool.eq_false_iff.mpr c35
              subst c35
              have H1 : (topiaristlaw20_BytesTell.j1 kj3 false) = some r := by rw [if_neg (show ¬ (false = true) by decide)] at H; exact H
              clear H
              have H := H1
              clear H1
              exact absurd ((topiaristlaw20_BytesTell.j1_false _ _  H).symm.trans hrt.out) Bool.false_ne_true
          case rest =>
            clear HC16
            try clear c1
            try clear c2
            try clear p2
            try clear c3
            try clear c4
            try clear c5
            try clear c6
            try clear c8
            try clear c10
            try clear c12
            try clear c13
            try clear c14
            try clear c15
            try clear c16
            try clear c17
            try clear c19
            try clear c21
            try clear c23
            try clear c24
            try clear c26
            try clear c27
            try clear c28
            try clear c29
            try clear c30
            try clear c31
            try clear c32
            try clear c33
            try clear c35
            try clear c37
            try clear c38
            try clear c39
            try clear c40
            try clear c40b0
            try clear c40b1
            try clear c41
            try clear c41b0
            try clear c41b1
            try clear c42
            try clear c42b0
            try clear c42b1
            try clear c42b2
            try clear c43
            try clear c44
            try clear c44b0
            try clear c44b1
            try clear c45
            try clear c45b0
            try clear c45b1
            try clear c46
            try clear c46b0
            try clear c46b1
            try clear c46b2
            try clear c47
            try clear c49
            try clear c50
            try clear c50b0
            try clear c50b1
            try clear c51
            try clear c52
            try clear c53
            try clear c54
            try clear c55
            try clear c56
            try clear c57
            try clear c57b0
            try clear c57b1
            try clear c58
            try clear c59
            try clear c60
            try clear c61
            try clear c87
            try clear c104
            try clear c121
            try clear c138
            try clear c153
            try clear c156
            try clear c156b0
            try clear c156b1
            try clear c159
            try clear c159b0
            try clear c159b1
            try clear c163
            try clear c165
            try clear c166
            try clear c166b0
            try clear c166b1
            try clear c168
            try clear c178
            try clear c196
            try clear c213
            try clear c230
            try clear c247
            try clear c262
            try clear c273
            try clear c284
            try clear c295
            try clear c306
            try clear c309
            try clear c309b0
            try clear c309b1
            try clear c310
            try clear c310b0
            try clear c310b1
            try clear c311
            try clear c311b0
            try clear c311b1
            try clear c312
            try clear c312b0
            try clear c312b1
            try clear c312b2
            try clear c313
            try clear c316
            try clear c316b0
            try clear c316b1
            try clear c320
            try clear c322
            try clear c323
            try clear c323b0
            try clear c323b1
            try clear c325
            try clear c335
            try clear c353
            try clear c370
            try clear c387
            try clear c404
            try clear c419
            try clear c422
            try clear c422b0
            try clear c422b1
            try clear c425
            try clear c425b0
            try clear c425b1
            try clear c429
            try clear c431
            try clear c432
            try clear c432b0
            try clear c432b1
            try clear c434
            try clear c444
            try clear c462
            try clear c479
            try clear c496
            try clear c513
            try clear c528
            try clear c539
            try clear c550
            try clear c561
            try clear c572
            try clear c583
            try clear c593
            try clear c603
            try clear c613
            try clear hcz105_0
            try clear hcz105_1
            try clear hcz105_2
            try clear hcz105_3
            try clear hcz106_0
            try clear hcz106_1
            try clear hcz106_2
            try clear hcz106_3
            try clear hcz122_0
            try clear hcz122_1
            try clear hcz122_2
            try clear hcz122_3
            try clear hcz123_0
            try clear hcz123_1
            try clear hcz123_2
            try clear hcz123_3
            try clear hcz139_0
            try clear hcz139_1
            try clear hcz139_2
            try clear hcz139_3
            try clear hcz140_0
            try clear hcz140_1
            try clear hcz140_2
            try clear hcz140_3
            try clear hcz154_0
            try clear hcz154_1
            try clear hcz154_2
            try clear hcz154_3
            try clear hcz155_0
            try clear hcz155_1
            try clear hcz155_2
            try clear hcz155_3
            try clear hcz179_0
            try clear hcz179_1
            try clear hcz179_2
            try clear hcz179_3
            try clear hcz180_0
            try clear hcz180_1
            try clear hcz180_2
            try clear hcz180_3
            try clear hcz197_0
            try clear hcz197_1
            try clear hcz197_2
            try clear hcz197_3
            try clear hcz198_0
            try clear hcz198_1
            try clear hcz198_2
            try clear hcz198_3
            try clear hcz214_0
            try clear hcz214_1
            try clear hcz214_2
            try clear hcz214_3
            try clear hcz215_0
            try clear hcz215_1
            try clear hcz215_2
            try clear hcz215_3
            try clear hcz231_0
            try clear hcz231_1
            try clear hcz231_2
            try clear hcz231_3
            try clear hcz232_0
            try clear hcz232_1
            try clear hcz232_2
            try clear hcz232_3
            try clear hcz248_0
            try clear hcz248_1
            try clear hcz248_2
            try clear hcz248_3
            try clear hcz249_0
            try clear hcz249_1
            try clear hcz249_2
            try clear hcz249_3
            try clear hcz263_0
            try clear hcz263_1
            try clear hcz263_2
            try clear hcz263_3
            try clear hcz264_0
            try clear hcz264_1
            try clear hcz264_2
            try clear hcz264_3
            try clear hcz274_0
            try clear hcz274_1
            try clear hcz274_2
            try clear hcz274_3
            try clear hcz275_0
            try clear hcz275_1
            try clear hcz275_2
            try clear hcz275_3
            try clear hcz285_0
            try clear hcz285_1
            try clear hcz285_2
            try clear hcz285_3
            try clear hcz286_0
            try clear hcz286_1
            try clear hcz286_2
            try clear hcz286_3
            try clear hcz296_0
            try clear hcz296_1
            try clear hcz296_2
            try clear hcz296_3
            try clear hcz297_0
            try clear hcz297_1
            try clear hcz297_2
            try clear hcz297_3
            try clear hcz307_0
            try clear hcz307_1
            try clear hcz307_2
            try clear hcz307_3
            try clear hcz308_0
            try clear hcz308_1
            try clear hcz308_2
            try clear hcz308_3
            try clear hcz336_0
            try clear hcz336_1
            try clear hcz336_2
            try clear hcz336_3
            try clear hcz337_0
            try clear hcz337_1
            try clear hcz337_2
            try clear hcz337_3
            try clear hcz354_0
            try clear hcz354_1
            try clear hcz354_2
            try clear hcz354_3
            try clear hcz355_0
            try clear hcz355_1
            try clear hcz355_2
            try clear hcz355_3
            try clear hcz371_0
            try clear hcz371_1
            try clear hcz371_2
            try clear hcz371_3
            try clear hcz372_0
            try clear hcz372_1
            try clear hcz372_2
            try clear hcz372_3
            try clear hcz388_0
            try clear hcz388_1
            try clear hcz388_2
            try clear hcz388_3
            try clear hcz389_0
            try clear hcz389_1
            try clear hcz389_2
            try clear hcz389_3
            try clear hcz405_0
            try clear hcz405_1
            try clear hcz405_2
            try clear hcz405_3
            try clear hcz406_0
            try clear hcz406_1
            try clear hcz406_2
            try clear hcz406_3
            try clear hcz420_0
            try clear hcz420_1
            try clear hcz420_2
            try clear hcz420_3
            try clear hcz421_0
            try clear hcz421_1
            try clear hcz421_2
            try clear hcz421_3
            try clear hcz445_0
            try clear hcz445_1
            try clear hcz445_2
            try clear hcz445_3
            try clear hcz446_0
            try clear hcz446_1
            try clear hcz446_2
            try clear hcz446_3
            try clear hcz463_0
            try clear hcz463_1
            try clear hcz463_2
            try clear hcz463_3
            try clear hcz464_0
            try clear hcz464_1
            try clear hcz464_2
            try clear hcz464_3
            try clear hcz480_0
            try clear hcz480_1
            try clear hcz480_2
            try clear hcz480_3
            try clear hcz481_0
            try clear hcz481_1
            try clear hcz481_2
            try clear hcz481_3
            try clear hcz497_0
            try clear hcz497_1
            try clear hcz497_2
            try clear hcz497_3
            try clear hcz498_0
            try clear hcz498_1
            try clear hcz498_2
            try clear hcz498_3
            try clear hcz514_0
            try clear hcz514_1
            try clear hcz514_2
            try clear hcz514_3
            try clear hcz515_0
            try clear hcz515_1
            try clear hcz515_2
            try clear hcz515_3
            try clear hcz529_0
            try clear hcz529_1
            try clear hcz529_2
            try clear hcz529_3
            try clear hcz530_0
            try clear hcz530_1
            try clear hcz530_2
            try clear hcz530_3
            try clear hcz540_0
            try clear hcz540_1
            try clear hcz540_2
            try clear hcz540_3
            try clear hcz541_0
            try clear hcz541_1
            try clear hcz541_2
            try clear hcz541_3
            try clear hcz551_0
            try clear hcz551_1
            try clear hcz551_2
            try clear hcz551_3
            try clear hcz552_0
            try clear hcz552_1
            try clear hcz552_2
            try clear hcz552_3
            try clear hcz562_0
            try clear hcz562_1
            try clear hcz562_2
            try clear hcz562_3
            try clear hcz563_0
            try clear hcz563_1
            try clear hcz563_2
            try clear hcz563_3
            try clear hcz573_0
            try clear hcz573_1
            try clear hcz573_2
            try clear hcz573_3
            try clear hcz574_0
            try clear hcz574_1
            try clear hcz574_2
            try clear hcz574_3
            try clear hcz584_0
            try clear hcz584_1
            try clear hcz584_2
            try clear hcz584_3
            try clear hcz594_0
            try clear hcz594_1
            try clear hcz594_2
            try clear hcz594_3
            try clear hcz604_0
            try clear hcz604_1
            try clear hcz604_2
            try clear hcz604_3
            try clear hcz614_0
            try clear hcz614_1
            try clear hcz614_2
            try clear hcz614_3
            try clear hcz88_0
            try clear hcz88_1
            try clear hcz88_2
            try clear hcz88_3
            try clear hcz89_0
            try clear hcz89_1
            try clear hcz89_2
            try clear hcz89_3
            try clear hfz105_0
            try clear hfz105_1
            try clear hfz105_2
            try clear hfz105_3
            try clear hfz106_0
            try clear hfz106_1
            try clear hfz106_2
            try clear hfz106_3
            try clear hfz122_0
            try clear hfz122_1
            try clear hfz122_2
            try clear hfz122_3
            try clear hfz123_0
            try clear hfz123_1
            try clear hfz123_2
            try clear hfz123_3
            try clear hfz139_0
            try clear hfz139_1
            try clear hfz139_2
            try clear hfz139_3
            try clear hfz140_0
            try clear hfz140_1
            try clear hfz140_2
            try clear hfz140_3
            try clear hfz154_0
            try clear hfz154_1
            try clear hfz154_2
            try clear hfz154_3
            try clear hfz155_0
            try clear hfz155_1
            try clear hfz155_2
            try clear hfz155_3
            try clear hfz179_0
            try clear hfz179_1
            try clear hfz179_2
            try clear hfz179_3
            try clear hfz180_0
            try clear hfz180_1
            try clear hfz180_2
            try clear hfz180_3
            try clear hfz197_0
            try clear hfz197_1
            try clear hfz197_2
            try clear hfz197_3
            try clear hfz198_0
            try clear hfz198_1
            try clear hfz198_2
            try clear hfz198_3
            try clear hfz214_0
            try clear hfz214_1
            try clear hfz214_2
            try clear hfz214_3
            try clear hfz215_0
            try clear hfz215_1
            try clear hfz215_2
            try clear hfz215_3
            try clear hfz231_0
            try clear hfz231_1
            try clear hfz231_2
            try clear hfz231_3
            try clear hfz232_0
            try clear hfz232_1
            try clear hfz232_2
            try clear hfz232_3
            try clear hfz248_0
            try clear hfz248_1
            try clear hfz248_2
            try clear hfz248_3
            try clear hfz249_0
            try clear hfz249_1
            try clear hfz249_2
            try clear hfz249_3
            try clear hfz263_0
            try clear hfz263_1
            try clear hfz263_2
            try clear hfz263_3
            try clear hfz264_0
            try clear hfz264_1
            try clear hfz264_2
            try clear hfz264_3
            try clear hfz274_0
            try clear hfz274_1
            try clear hfz274_2
            try clear hfz274_3
            try clear hfz275_0
            try clear hfz275_1
            try clear hfz275_2
            try clear hfz275_3
            try clear hfz285_0
            try clear hfz285_1
            try clear hfz285_2
            try clear hfz285_3
            try clear hfz286_0
            try clear hfz286_1
            try clear hfz286_2
            try clear hfz286_3
            try clear hfz296_0
            try clear hfz296_1
            try clear hfz296_2
            try clear hfz296_3
            try clear hfz297_0
            try clear hfz297_1
            try clear hfz297_2
            try clear hfz297_3
            try clear hfz307_0
            try clear hfz307_1
            try clear hfz307_2
            try clear hfz307_3
            try clear hfz308_0
            try clear hfz308_1
            try clear hfz308_2
            try clear hfz308_3
            try clear hfz336_0
            try clear hfz336_1
            try clear hfz336_2
            try clear hfz336_3
            try clear hfz337_0
            try clear hfz337_1
            try clear hfz337_2
            try clear hfz337_3
            try clear hfz354_0
            try clear hfz354_1
            try clear hfz354_2
            try clear hfz354_3
            try clear hfz355_0
            try clear hfz355_1
            try clear hfz355_2
            try clear hfz355_3
            try clear hfz371_0
            try clear hfz371_1
            try clear hfz371_2
            try clear hfz371_3
            try clear hfz372_0
            try clear hfz372_1
            try clear hfz372_2
            try clear hfz372_3
            try clear hfz388_0
            try clear hfz388_1
            try clear hfz388_2
            try clear hfz388_3
            try clear hfz389_0
            try clear hfz389_1
            try clear hfz389_2
            try clear hfz389_3
            try clear hfz405_0
            try clear hfz405_1
            try clear hfz405_2
            try clear hfz405_3
            try clear hfz406_0
            try clear hfz406_1
            try clear hfz406_2
            try clear hfz406_3
            try clear hfz420_0
            try clear hfz420_1
            try clear hfz420_2
            try clear hfz420_3
            try clear hfz421_0
            try clear hfz421_1
            try clear hfz421_2
            try clear hfz421_3
            try clear hfz445_0
            try clear hfz445_1
            try clear hfz445_2
            try clear hfz445_3
            try clear hfz446_0
            try clear hfz446_1
            try clear hfz446_2
            try clear hfz446_3
            try clear hfz463_0
            try clear hfz463_1
            try clear hfz463_2
            try clear hfz463_3
            try clear hfz464_0
            try clear hfz464_1
            try clear hfz464_2
            try clear hfz464_3
            try clear hfz480_0
            try clear hfz480_1
            try clear hfz480_2
            try clear hfz480_3
            try clear hfz481_0
            try clear hfz481_1
            try clear hfz481_2
            try clear hfz481_3
            try clear hfz497_0
            try clear hfz497_1
            try clear hfz497_2
            try clear hfz497_3
            try clear hfz498_0
            try clear hfz498_1
            try clear hfz498_2
            try clear hfz498_3
            try clear hfz514_0
            try clear hfz514_1
            try clear hfz514_2
            try clear hfz514_3
            try clear hfz515_0
            try clear hfz515_1
            try clear hfz515_2
            try clear hfz515_3
            try clear hfz529_0
            try clear hfz529_1
            try clear hfz529_2
            try clear hfz529_3
            try clear hfz530_0
            try clear hfz530_1
            try clear hfz530_2
            try clear hfz530_3
            try clear hfz540_0
            try clear hfz540_1
            try clear hfz540_2
            try clear hfz540_3
            try clear hfz541_0
            try clear hfz541_1
            try clear hfz541_2
            try clear hfz541_3
            try clear hfz551_0
            try clear hfz551_1
            try clear hfz551_2
            try clear hfz551_3
            try clear hfz552_0
            try clear hfz552_1
            try clear hfz552_2
            try clear hfz552_3
            try clear hfz562_0
            try clear hfz562_1
            try clear hfz562_2
            try clear hfz562_3
            try clear hfz563_0
            try clear hfz563_1
            try clear hfz563_2
            try clear hfz563_3
            try clear hfz573_0
            try clear hfz573_1
            try clear hfz573_2
            try clear hfz573_3
            try clear hfz574_0
            try clear hfz574_1
            try clear hfz574_2
            try clear hfz574_3
            try clear hfz584_0
            try clear hfz584_1
            try clear hfz584_2
            try clear hfz584_3
            try clear hfz594_0
            try clear hfz594_1
            try clear hfz594_2
            try clear hfz594_3
            try clear hfz604_0
            try clear hfz604_1
            try clear hfz604_2
            try clear hfz604_3
            try clear hfz614_0
            try clear hfz614_1
            try clear hfz614_2
            try clear hfz614_3
            try clear hfz88_0
            try clear hfz88_1
            try clear hfz88_2
            try clear hfz88_3
            try clear hfz89_0
            try clear hfz89_1
            try clear hfz89_2
            try clear hfz89_3
            obtain ⟨kq, x6_15, rfl, HA, HJ15, BK115, BK123, HB⟩ := hcut
            cases kq with
            | zero => exact absurd HA.out (by simp [topiaristlaw20_BytesTell.j1])
            | succ kj15 =>
              have H := HA.out
              clear HA
              simp only [topiaristlaw20_BytesTell.j1] at H
              obtain rfl := Option.some.inj H
              go_wp2
              go_ret
              exact ⟨by first | rfl | (simp [errW_none, errW_some] <;> rfl) | (simp [*, errW_none, errW_some] <;> rfl), by repeat (first | (with_reducible first | exact HB.out | apply below_alloc | apply pw_below_drewN | apply below_drew1 | refine below_set ?_ GE115.out | refine below_set ?_ GE123.out) | exact HB.out)⟩
        · rw [if_neg c9] at H
          exact absurd H (by simp)

/-- THE ONE PURE STATEMENT of topiaristlaw20_BytesTell: yours. -/
def topiaristlaw20_BytesTell.Pure : Prop := ∀ (l0 : List Int) (a1 : Int) (a2 : ByteArray), l0.length ≤ maxLen → l0.length * 1 ≤ 140737488351232 → (∀ x ∈ l0, (Lit.int .u8 x).wf = true) → (Lit.int .i64 a1).wf = true → a2.size ≤ 140737488351232 → ∃ k, topiaristlaw20_BytesTell.f k l0 a1 a2 = some true
theorem topiaristlaw20_BytesTell.walk (P : topiaristlaw20_BytesTell.Pure) (a0 : Option Addr) (len0 cap0 : Nat) (z0 : List Int) (a1 : Int) (a2 : ByteArray) (w : World) (w0 : (a0 = none ∧ len0 = 0 ∧ cap0 = 0 ∧ z0 = []) ∨ ∃ x, a0 = some x ∧ len0 ≤ cap0 ∧ cap0 ≤ maxLen ∧ z0.length = cap0 ∧ (∀ i, i < z0.length → w.cell? (x.add i) = some (.int .u8 (z0.getD i 0))) ∧ ∀ n ∈ z0, (Lit.int .u8 n).wf = true) (y0 : len0 * 1 ≤ 140737488351232) (w1 : (Lit.int .i64 a1).wf = true) (w2 : a2.size ≤ 140737488351232) :
    Calls Try.prog 3 #[.slice a0 len0 cap0, .int .i64 a1, .string a2] w fun e w' => e = .returned (.bool true) ∧ Below w.heap.size w w' := by
  obtain ⟨l0, rfl, hr0, hm0, hw0, hc0⟩ := ReadsInt.ofRowC w0
  obtain ⟨k, h⟩ := P l0 a1 a2 hm0 y0 hw0 w1 w2
  refine (topiaristlaw20_BytesTell.calls k _ _ l0 a1 a2 true w (Kd.C_of_reads (d := (0 : Int)) (h1 := fun _ => rfl) hr0) hc0 h ⟨rfl⟩).mono ?_
  rintro e w' ⟨rfl, hd⟩
  exact ⟨rfl, hd⟩

end Go.Proofs.Ytncgbkmhigdflaa.P
