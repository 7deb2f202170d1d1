-- Written by this session's own program wip/gen.py; Lean checks it.
import Derived.Test.YtfbncmcibfkfiaaPx0
import Derived.Test.YtfbncmcibfkfiaaPx9
import Derived.Test.YtfbncmcibfkfiaaPx10
import Derived.Test.YtfbncmcibfkfiaaPx13
import Derived.Test.YtfbncmcibfkfiaaPx15
import Derived.Test.YtfbncmcibfkfiaaPx1036
namespace Go.Proofs.Ytfbncmcibfkfiaa.P
open Go.RowKit Go.Proofs.YtfbncmcibfkfiaaW.PrintWords Go.Proofs.YtfbncmcibfkfiaaW.PrintLast Go.Proofs.YtfbncmcibfkfiaaW.PrintMore
attribute [local go_sem] max2_int min2_int max_two min_two max_three min_three max_four min_four   -- for this text's walks alone
set_option linter.unusedVariables false
set_option linter.unusedSimpArgs false

attribute [local go_sem high] eqA36
theorem one_size (c : UInt8) : (⟨#[c]⟩ : ByteArray).size = 1 := rfl
/-! ### topiaristlaw01_LexNames: function 6 -/
mutual
def topiaristlaw01_LexNames.j0 : Nat → ByteArray → Bool → Bool → Option (Bool)
  | 0, _, _, _ => none
  | k + 1, x0, x3, x4 => topiaristlaw01_LexNames.l0 k x0 x3 x4 0
def topiaristlaw01_LexNames.l0 : Nat → ByteArray → Bool → Bool → Int → Option (Bool)
  | 0, _, _, _, _ => none
  | k + 1, x0, x3, x4, x5 => if x5 < (x0.size : Int) then (if 0 ≤ x5 then (if (bt x0 x5) ≥ 97 then (if (bt x0 x5) ≤ 122 then (topiaristlaw01_LexNames.j2 k x0 x3 x4 x5 (bt x0 x5) true) else (if (bt x0 x5) ≥ 65 then (topiaristlaw01_LexNames.j2 k x0 x3 x4 x5 (bt x0 x5) (decide ((bt x0 x5) ≤ 90))) else (topiaristlaw01_LexNames.j2 k x0 x3 x4 x5 (bt x0 x5) false))) else (if (bt x0 x5) ≥ 65 then (topiaristlaw01_LexNames.j2 k x0 x3 x4 x5 (bt x0 x5) (decide ((bt x0 x5) ≤ 90))) else (topiaristlaw01_LexNames.j2 k x0 x3 x4 x5 (bt x0 x5) false))) else (none)) else ((lex_Tokens.f x0).bind fun bt102 => (if bt102.2.1 = 0 then (if (bt102.1.length : Int) = 1 then (if 0 < (bt102.1.length : Int) then (topiaristlaw01_LexNames.j4 k x0 x3 x4 (((rd_T36 bt102.1 0).f0) == 1 && ((((rd_T36 bt102.1 0).f1).toList) == x0.toList && (((rd_T36 bt102.1 0).f2) == 0)))) else (none)) else (topiaristlaw01_LexNames.j4 k x0 x3 x4 false)) else (topiaristlaw01_LexNames.j4 k x0 x3 x4 false)))
def topiaristlaw01_LexNames.j2 : Nat → ByteArray → Bool → Bool → Int → Int → Bool → Option (Bool)
  | 0, _, _, _, _, _, _ => none
  | k + 1, x0, x3, x4, x5, x6, x7 => if x3 = true then (if x7 = true then (topiaristlaw01_LexNames.j3 k x0 true x4 x5 x6) else (if x5 > 0 then (if x6 ≥ 48 then (if x6 ≤ 57 then (topiaristlaw01_LexNames.j3 k x0 true x4 x5 x6) else (topiaristlaw01_LexNames.j3 k x0 (x6 == 95) x4 x5 x6)) else (topiaristlaw01_LexNames.j3 k x0 (x6 == 95) x4 x5 x6)) else (topiaristlaw01_LexNames.j3 k x0 false x4 x5 x6))) else (topiaristlaw01_LexNames.j3 k x0 false x4 x5 x6)
def topiaristlaw01_LexNames.j3 : Nat → ByteArray → Bool → Bool → Int → Int → Option (Bool)
  | 0, _, _, _, _, _ => none
  | k + 1, x0, x3, x4, x5, x6 => if x4 = true then (if x6 ≥ 32 then (if x6 < 127 then (topiaristlaw01_LexNames.l0 k x0 x3 (x6 != 39) (wrap64 (x5 + 1))) else (topiaristlaw01_LexNames.l0 k x0 x3 false (wrap64 (x5 + 1)))) else (topiaristlaw01_LexNames.l0 k x0 x3 false (wrap64 (x5 + 1)))) else (topiaristlaw01_LexNames.l0 k x0 x3 false (wrap64 (x5 + 1)))
def topiaristlaw01_LexNames.j4 : Nat → ByteArray → Bool → Bool → Bool → Option (Bool)
  | 0, _, _, _, _ => none
  | k + 1, x0, x3, x4, x10 => if 1 + x0.size ≤ 9223372036854775807 then (if ((⟨#[39]⟩ : ByteArray) ++ x0).size + 1 ≤ 9223372036854775807 then ((lex_Tokens.f (((⟨#[39]⟩ : ByteArray) ++ x0) ++ (⟨#[39]⟩ : ByteArray))).bind fun bt109 => (if bt109.2.1 = 0 then (if (bt109.1.length : Int) = 1 then (if 0 < (bt109.1.length : Int) then (topiaristlaw01_LexNames.j5 k x0 x3 x4 x10 (((rd_T36 bt109.1 0).f0) == 2 && ((((rd_T36 bt109.1 0).f1).toList) == x0.toList && (((rd_T36 bt109.1 0).f2) == 0)))) else (none)) else (topiaristlaw01_LexNames.j5 k x0 x3 x4 x10 false)) else (topiaristlaw01_LexNames.j5 k x0 x3 x4 x10 false))) else (none)) else (none)
def topiaristlaw01_LexNames.j5 : Nat → ByteArray → Bool → Bool → Bool → Bool → Option (Bool)
  | 0, _, _, _, _, _ => none
  | k + 1, x0, x3, x4, x10, x13 => (lex_IsName.f x0).bind fun t116 => (if (t116 == x3) = true then ((lex_IsTerm.f x0).bind fun t117 => (if (t117 == x4) = true then (if (x10 == x3) = true then (if (x13 == x4) = true then ((topiaristlaw01_wakes.f).bind fun t118 => (some t118)) else (some false)) else (some false)) else (some false))) else (some false))
end
def topiaristlaw01_LexNames.f (k : Nat) (a0 : ByteArray) : Option (Bool) := if (a0.size : Int) > 300 then ((topiaristlaw01_wakes.f).bind fun t101 => (some t101)) else (if (a0.size : Int) ≥ 1 then (topiaristlaw01_LexNames.j0 k a0 (decide ((a0.size : Int) ≤ 16)) (decide ((a0.size : Int) ≤ 16))) else (topiaristlaw01_LexNames.j0 k a0 false false))
theorem topiaristlaw01_LexNames.mono_l : ∀ k, (∀ y0 y1 y2, LeO (topiaristlaw01_LexNames.j0 k y0 y1 y2) (topiaristlaw01_LexNames.j0 (k + 1) y0 y1 y2)) ∧ (∀ y0 y1 y2 y3, LeO (topiaristlaw01_LexNames.l0 k y0 y1 y2 y3) (topiaristlaw01_LexNames.l0 (k + 1) y0 y1 y2 y3)) ∧ (∀ y0 y1 y2 y3 y4 y5, LeO (topiaristlaw01_LexNames.j2 k y0 y1 y2 y3 y4 y5) (topiaristlaw01_LexNames.j2 (k + 1) y0 y1 y2 y3 y4 y5)) ∧ (∀ y0 y1 y2 y3 y4, LeO (topiaristlaw01_LexNames.j3 k y0 y1 y2 y3 y4) (topiaristlaw01_LexNames.j3 (k + 1) y0 y1 y2 y3 y4)) ∧ (∀ y0 y1 y2 y3, LeO (topiaristlaw01_LexNames.j4 k y0 y1 y2 y3) (topiaristlaw01_LexNames.j4 (k + 1) y0 y1 y2 y3)) ∧ (∀ y0 y1 y2 y3 y4, LeO (topiaristlaw01_LexNames.j5 k y0 y1 y2 y3 y4) (topiaristlaw01_LexNames.j5 (k + 1) y0 y1 y2 y3 y4))
  | 0 => ⟨fun _ _ _ r h => by simp [topiaristlaw01_LexNames.j0] at h, fun _ _ _ _ r h => by simp [topiaristlaw01_LexNames.l0] at h, fun _ _ _ _ _ _ r h => by simp [topiaristlaw01_LexNames.j2] at h, fun _ _ _ _ _ r h => by simp [topiaristlaw01_LexNames.j3] at h, fun _ _ _ _ r h => by simp [topiaristlaw01_LexNames.j4] at h, fun _ _ _ _ _ r h => by simp [topiaristlaw01_LexNames.j5] at h⟩
  | k + 1 => by
    obtain ⟨ih0, ih1, ih2, ih3, ih4, ih5⟩ := topiaristlaw01_LexNames.mono_l k
    refine ⟨?_, ?_, ?_, ?_, ?_, ?_⟩
    · intro y0 y1 y2
      unfold topiaristlaw01_LexNames.j0
      repeat' first
      | (with_reducible exact ih0 _ _ _)
      | (with_reducible exact ih1 _ _ _ _)
      | (with_reducible exact ih2 _ _ _ _ _ _)
      | (with_reducible exact ih3 _ _ _ _ _)
      | (with_reducible exact ih4 _ _ _ _)
      | (with_reducible exact ih5 _ _ _ _ _)
      | (with_reducible exact LeO.refl _)
      | (with_reducible exact LeO.none _)
      | (with_reducible refine LeO.ite ?_ ?_)
      | (with_reducible refine LeO.bind ?_ (fun _ => ?_))
      | exact ih0 _ _ _
      | exact ih1 _ _ _ _
      | exact ih2 _ _ _ _ _ _
      | exact ih3 _ _ _ _ _
      | exact ih4 _ _ _ _
      | exact ih5 _ _ _ _ _
      | exact LeO.none _
      | refine LeO.ite ?_ ?_
      | refine LeO.bind ?_ (fun _ => ?_)
    · intro y0 y1 y2 y3
      unfold topiaristlaw01_LexNames.l0
      repeat' first
      | (with_reducible exact ih0 _ _ _)
      | (with_reducible exact ih1 _ _ _ _)
      | (with_reducible exact ih2 _ _ _ _ _ _)
      | (with_reducible exact ih3 _ _ _ _ _)
      | (with_reducible exact ih4 _ _ _ _)
      | (with_reducible exact ih5 _ _ _ _ _)
      | (with_reducible exact LeO.refl _)
      | (with_reducible exact LeO.none _)
      | (with_reducible refine LeO.ite ?_ ?_)
      | (with_reducible refine LeO.bind ?_ (fun _ => ?_))
      | exact ih0 _ _ _
      | exact ih1 _ _ _ _
      | exact ih2 _ _ _ _ _ _
      | exact ih3 _ _ _ _ _
      | exact ih4 _ _ _ _
      | exact ih5 _ _ _ _ _
      | exact LeO.none _
      | refine LeO.ite ?_ ?_
      | refine LeO.bind ?_ (fun _ => ?_)
    · intro y0 y1 y2 y3 y4 y5
      unfold topiaristlaw01_LexNames.j2
      repeat' first
      | (with_reducible exact ih0 _ _ _)
      | (with_reducible exact ih1 _ _ _ _)
      | (with_reducible exact ih2 _ _ _ _ _ _)
      | (with_reducible exact ih3 _ _ _ _ _)
      | (with_reducible exact ih4 _ _ _ _)
      | (with_reducible exact ih5 _ _ _ _ _)
      | (with_reducible exact LeO.refl _)
      | (with_reducible exact LeO.none _)
      | (with_reducible refine LeO.ite ?_ ?_)
      | (with_reducible refine LeO.bind ?_ (fun _ => ?_))
      | exact ih0 _ _ _
      | exact ih1 _ _ _ _
      | exact ih2 _ _ _ _ _ _
      | exact ih3 _ _ _ _ _
      | exact ih4 _ _ _ _
      | exact ih5 _ _ _ _ _
      | exact LeO.none _
      | refine LeO.ite ?_ ?_
      | refine LeO.bind ?_ (fun _ => ?_)
    · intro y0 y1 y2 y3 y4
      unfold topiaristlaw01_LexNames.j3
      repeat' first
      | (with_reducible exact ih0 _ _ _)
      | (with_reducible exact ih1 _ _ _ _)
      | (with_reducible exact ih2 _ _ _ _ _ _)
      | (with_reducible exact ih3 _ _ _ _ _)
      | (with_reducible exact ih4 _ _ _ _)
      | (with_reducible exact ih5 _ _ _ _ _)
      | (with_reducible exact LeO.refl _)
      | (with_reducible exact LeO.none _)
      | (with_reducible refine LeO.ite ?_ ?_)
      | (with_reducible refine LeO.bind ?_ (fun _ => ?_))
      | exact ih0 _ _ _
      | exact ih1 _ _ _ _
      | exact ih2 _ _ _ _ _ _
      | exact ih3 _ _ _ _ _
      | exact ih4 _ _ _ _
      | exact ih5 _ _ _ _ _
      | exact LeO.none _
      | refine LeO.ite ?_ ?_
      | refine LeO.bind ?_ (fun _ => ?_)
    · intro y0 y1 y2 y3
      unfold topiaristlaw01_LexNames.j4
      repeat' first
      | (with_reducible exact ih0 _ _ _)
      | (with_reducible exact ih1 _ _ _ _)
      | (with_reducible exact ih2 _ _ _ _ _ _)
      | (with_reducible exact ih3 _ _ _ _ _)
      | (with_reducible exact ih4 _ _ _ _)
      | (with_reducible exact ih5 _ _ _ _ _)
      | (with_reducible exact LeO.refl _)
      | (with_reducible exact LeO.none _)
      | (with_reducible refine LeO.ite ?_ ?_)
      | (with_reducible refine LeO.bind ?_ (fun _ => ?_))
      | exact ih0 _ _ _
      | exact ih1 _ _ _ _
      | exact ih2 _ _ _ _ _ _
      | exact ih3 _ _ _ _ _
      | exact ih4 _ _ _ _
      | exact ih5 _ _ _ _ _
      | exact LeO.none _
      | refine LeO.ite ?_ ?_
      | refine LeO.bind ?_ (fun _ => ?_)
    · intro y0 y1 y2 y3 y4
      unfold topiaristlaw01_LexNames.j5
      repeat' first
      | (with_reducible exact ih0 _ _ _)
      | (with_reducible exact ih1 _ _ _ _)
      | (with_reducible exact ih2 _ _ _ _ _ _)
      | (with_reducible exact ih3 _ _ _ _ _)
      | (with_reducible exact ih4 _ _ _ _)
      | (with_reducible exact ih5 _ _ _ _ _)
      | (with_reducible exact LeO.refl _)
      | (with_reducible exact LeO.none _)
      | (with_reducible refine LeO.ite ?_ ?_)
      | (with_reducible refine LeO.bind ?_ (fun _ => ?_))
      | exact ih0 _ _ _
      | exact ih1 _ _ _ _
      | exact ih2 _ _ _ _ _ _
      | exact ih3 _ _ _ _ _
      | exact ih4 _ _ _ _
      | exact ih5 _ _ _ _ _
      | exact LeO.none _
      | refine LeO.ite ?_ ?_
      | refine LeO.bind ?_ (fun _ => ?_)
theorem topiaristlaw01_LexNames.mono : ∀ a0 k, LeO (topiaristlaw01_LexNames.f k a0) (topiaristlaw01_LexNames.f (k + 1) a0) := by
  intro a0 k
  obtain ⟨ih0, ih1, ih2, ih3, ih4, ih5⟩ := topiaristlaw01_LexNames.mono_l k
  unfold topiaristlaw01_LexNames.f
  repeat' first
      | (with_reducible exact ih0 _ _ _)
      | (with_reducible exact ih1 _ _ _ _)
      | (with_reducible exact ih2 _ _ _ _ _ _)
      | (with_reducible exact ih3 _ _ _ _ _)
      | (with_reducible exact ih4 _ _ _ _)
      | (with_reducible exact ih5 _ _ _ _ _)
      | (with_reducible exact LeO.refl _)
      | (with_reducible exact LeO.none _)
      | (with_reducible refine LeO.ite ?_ ?_)
      | (with_reducible refine LeO.bind ?_ (fun _ => ?_))
      | exact ih0 _ _ _
      | exact ih1 _ _ _ _
      | exact ih2 _ _ _ _ _ _
      | exact ih3 _ _ _ _ _
      | exact ih4 _ _ _ _
      | exact ih5 _ _ _ _ _
      | exact LeO.none _
      | refine LeO.ite ?_ ?_
      | refine LeO.bind ?_ (fun _ => ?_)
set_option maxHeartbeats 8000000 in
set_option maxRecDepth 100000 in
theorem topiaristlaw01_LexNames.calls (k : Nat) (a0 : ByteArray) (r : Bool) (w : World) (h : topiaristlaw01_LexNames.f k a0 = some r) :
    Calls Try.prog 6 #[.string a0] w fun e w' => e = .returned (.bool r) ∧ Below w.heap.size w w' := by
  have hu26 := Try.underlying26
  have hu36 := Try.underlying36
  have HB := Aside0.mk (Below.refl w.heap.size w)
  have H : (if (a0.size : Int) > 300 then ((topiaristlaw01_wakes.f).bind fun t101 => (some t101)) else (if (a0.size : Int) ≥ 1 then (topiaristlaw01_LexNames.j0 k a0 (decide ((a0.size : Int) ≤ 16)) (decide ((a0.size : Int) ≤ 16))) else (topiaristlaw01_LexNames.j0 k a0 false false))) = some r := h
  clear h
  by_cases c2 : (a0.size : Int) > 300
  · rw [if_pos c2] at H
    have c2b0 : decide (300 < (a0.size : Int)) = true := decide_eq_true c2
    have c2b1 : decide (300 < a0.size) = true := decide_eq_true (by omega)
    clear c2
    replace H := Option.bind_eq_some_iff.mp H
    obtain ⟨t101, A30, H⟩ := H
    replace H : (some t101) = some r := H
    have A3 := Aside0.mk A30
    clear A30
    obtain rfl := Option.some.inj H
    go_enter Try.func6, Try.ntmps6
    go_wp2_with (first | ((with_reducible refine gate_callee (f := 9) rfl ?_); refine goesL_ (some 17) rfl rfl Try.func9 (by kernel_rfl) rfl #[] rfl (by (try simp only [List.map_toArray, List.map_cons, List.map_nil]); first | done | rfl | (simp only [List.length_drop, List.length_take]; rfl)) ?_; (with_reducible refine (topiaristlaw01_wakes.calls  t101 _ A3.out).mono ?_); rintro e w4 ⟨rfl, hb⟩; refine ⟨_, rfl, ?_⟩; have n0_ := Aside0.mk (below_step (by repeat (first | (with_reducible first | exact HB.out | apply below_alloc | apply pw_below_drewN | apply below_drew1) | exact HB.out)) hb); clear HB; have HB := n0_; clear n0_; (try clear hb); (try clear hb2); (try clear hk); (try clear hi)))
    go_ret
    exact ⟨by first | rfl | (simp [errW_none, errW_some] <;> rfl) | (simp [*, errW_none, errW_some] <;> rfl), by repeat (first | (with_reducible first | exact HB.out | apply below_alloc | apply pw_below_drewN | apply below_drew1) | exact HB.out)⟩
  · rw [if_neg c2] at H
    have c2b0 : decide (300 < (a0.size : Int)) = false := decide_eq_false c2
    have c2b1 : decide (300 < a0.size) = false := decide_eq_false (by omega)
    clear c2
    have HC5 := Aside0.mk H
    clear H
    go_enter Try.func6, Try.ntmps6
    go_upto_region 3 with (fail)
    go_cut [3, 4] (fun v3 v4 wc => ∃ (kq : Nat) (x3_4 : Bool) (x4_4 : Bool), v3 = .bool x3_4 ∧ v4 = .bool x4_4 ∧ Aside0 (topiaristlaw01_LexNames.j0 kq a0 x3_4 x4_4 = some r) ∧ Aside0 (kq ≤ k) ∧ Aside0 (Below w.heap.size w wc))
    case first =>
      have H := HC5.out
      clear HC5
      by_cases c6 : (a0.size : Int) ≥ 1
      · rw [if_pos c6] at H
        have c6b0 : decide (1 ≤ (a0.size : Int)) = true := decide_eq_true c6
        have c6b1 : decide (1 ≤ a0.size) = true := decide_eq_true (by omega)
        clear c6
        (first | rw [c6b0] | (simp only [i64_w, i32_w]; rw [c6b0]) | skip)
        have H' := Aside0.mk H
        clear H
        go_wp2
        go_meet
        case rel => exact ⟨_, (decide ((a0.size : Int) ≤ 16)), (decide ((a0.size : Int) ≤ 16)), (by first | rfl | (simp; done) | (simp [*]; done) | (simp [*, one_size]; done)), (by first | rfl | (simp; done) | (simp [*]; done) | (simp [*, one_size]; done)), H', ⟨by first | omega | exact Nat.le_refl _⟩, ⟨by repeat (first | (with_reducible first | exact HB.out | apply below_alloc | apply pw_below_drewN | apply below_drew1) | exact HB.out)⟩⟩
      · rw [if_neg c6] at H
        have c6b0 : decide (1 ≤ (a0.size : Int)) = false := decide_eq_false c6
        have c6b1 : decide (1 ≤ a0.size) = false := decide_eq_false (by omega)
        clear c6
        (first | rw [c6b0] | (simp only [i64_w, i32_w]; rw [c6b0]) | skip)
        have H' := Aside0.mk H
        clear H
        go_wp2
        go_meet
        case rel => exact ⟨_, (false), (false), (by first | rfl | (simp; done) | (simp [*]; done) | (simp [*, one_size]; done)), (by first | rfl | (simp; done) | (simp [*]; done) | (simp [*, one_size]; done)), H', ⟨by first | omega | exact Nat.le_refl _⟩, ⟨by repeat (first | (with_reducible first | exact HB.out | apply below_alloc | apply pw_below_drewN | apply below_drew1) | exact HB.out)⟩⟩
    case rest =>
      clear HC5
      try clear c2
      try clear c2b0
      try clear c2b1
      try clear p2
      try clear c6
      try clear c6b0
      try clear c6b1
      obtain ⟨kq, x3_4, x4_4, rfl, rfl, HA, HJ4, HB⟩ := hcut
      cases kq with
      | zero => exact absurd HA.out (by simp [topiaristlaw01_LexNames.j0])
      | succ kj4 =>
        have H := HA.out
        clear HA
        simp only [topiaristlaw01_LexNames.j0] at H
        have H' := Aside0.mk H
        clear H
        go_wp2
        go_loopg [3, 4, 5] kj4 (fun kq v3 v4 v5 w' => ∃ (x3_2 : Bool) (x4_2 : Bool) (x5_2 : Int), v3 = .bool x3_2 ∧ v4 = .bool x4_2 ∧ v5 = .int .i64 x5_2 ∧ Aside0 (topiaristlaw01_LexNames.l0 kq a0 x3_2 x4_2 x5_2 = some r) ∧ Aside0 (kq ≤ kj4) ∧ Aside0 (Below w.heap.size w w'))
        case atStart => exact ⟨(x3_4), (x4_4), (0), (by first | rfl | (simp; done) | (simp [*]; done) | (simp [*, one_size]; done)), (by first | rfl | (simp; done) | (simp [*]; done) | (simp [*, one_size]; done)), (by first | rfl | (simp; done) | (simp [*]; done) | (simp [*, one_size]; done)), H', ⟨Nat.le_refl _⟩, ⟨by repeat (first | (with_reducible first | exact HB.out | apply below_alloc | apply pw_below_drewN | apply below_drew1) | exact HB.out)⟩⟩
        case round =>
          clear H'
          try clear c2
          try clear c2b0
          try clear c2b1
          try clear p2
          try clear c6
          try clear c6b0
          try clear c6b1
          try clear p2
          obtain ⟨x3_2, x4_2, x5_2, rfl, rfl, rfl, HA, HK2, HB⟩ := hrel
          cases gk with
          | zero => exact absurd HA.out (by simp [topiaristlaw01_LexNames.l0])
          | succ k2 =>
            have H := HA.out
            clear HA
            simp only [topiaristlaw01_LexNames.l0] at H
            by_cases c7 : x5_2 < (a0.size : Int)
            · rw [if_pos c7] at H
              have c7b0 : decide (x5_2 < (a0.size : Int)) = true := decide_eq_true c7
              clear c7
              by_cases c8 : 0 ≤ x5_2
              · rw [if_pos c8] at H
                have c8b0 : decide (0 ≤ x5_2) = true := decide_eq_true c8
                clear c8
                have HC10 := Aside0.mk H
                clear H
                have p9 : 0 ≤ (x5_2 : Int) := of_decide_eq_true (by first | (with_reducible assumption) | assumption)
                have q9 : x5_2 < (a0.size : Int) := of_decide_eq_true (by first | (with_reducible assumption) | assumption)
                have hx9 := bt_at a0 x5_2
                replace p9 := eq_true p9
                replace q9 := eq_true q9
                go_upto_region 8 with (fail)
                go_cut [7] (fun v7 wc => ∃ (kq : Nat) (x7_9 : Bool), v7 = .bool x7_9 ∧ Aside0 (topiaristlaw01_LexNames.j2 kq a0 x3_2 x4_2 x5_2 (bt a0 x5_2) x7_9 = some r) ∧ Aside0 (kq ≤ k2) ∧ Aside0 (Below w.heap.size w wc))
                case first =>
                  have H := HC10.out
                  clear HC10
                  by_cases c11 : (bt a0 x5_2) ≥ 97
                  · rw [if_pos c11] at H
                    have c11b0 : decide (97 ≤ (bt a0 x5_2)) = true := decide_eq_true c11
                    clear c11
                    (first | rw [c11b0] | (simp only [i64_w, i32_w]; rw [c11b0]) | skip)
                    by_cases c12 : (bt a0 x5_2) ≤ 122
                    · rw [if_pos c12] at H
                      have c12b0 : decide ((bt a0 x5_2) ≤ 122) = true := decide_eq_true c12
                      clear c12
                      have H' := Aside0.mk H
                      clear H
                      go_wp2
                      go_meet
                      case rel => exact ⟨_, (true), (by first | rfl | (simp; done) | (simp [*]; done) | (simp [*, one_size]; done)), H', ⟨by have := HJ4.out; have := HK2.out; first | omega | exact Nat.le_refl _⟩, ⟨by repeat (first | (with_reducible first | exact HB.out | apply below_alloc | apply pw_below_drewN | apply below_drew1) | exact HB.out)⟩⟩
                    · rw [if_neg c12] at H
                      have c12b0 : decide ((bt a0 x5_2) ≤ 122) = false := decide_eq_false c12
                      clear c12
                      by_cases c13 : (bt a0 x5_2) ≥ 65
                      · rw [if_pos c13] at H
                        have c13b0 : decide (65 ≤ (bt a0 x5_2)) = true := decide_eq_true c13
                        clear c13
                        have H' := Aside0.mk H
                        clear H
                        go_wp2
                        go_meet
                        case rel => exact ⟨_, (decide ((bt a0 x5_2) ≤ 90)), (by first | rfl | (simp; done) | (simp [*]; done) | (simp [*, one_size]; done)), H', ⟨by have := HJ4.out; have := HK2.out; first | omega | exact Nat.le_refl _⟩, ⟨by repeat (first | (with_reducible first | exact HB.out | apply below_alloc | apply pw_below_drewN | apply below_drew1) | exact HB.out)⟩⟩
                      · rw [if_neg c13] at H
                        have c13b0 : decide (65 ≤ (bt a0 x5_2)) = false := decide_eq_false c13
                        clear c13
                        have H' := Aside0.mk H
                        clear H
                        go_wp2
                        go_meet
                        case rel => exact ⟨_, (false), (by first | rfl | (simp; done) | (simp [*]; done) | (simp [*, one_size]; done)), H', ⟨by have := HJ4.out; have := HK2.out; first | omega | exact Nat.le_refl _⟩, ⟨by repeat (first | (with_reducible first | exact HB.out | apply below_alloc | apply pw_below_drewN | apply below_drew1) | exact HB.out)⟩⟩
                  · rw [if_neg c11] at H
                    have c11b0 : decide (97 ≤ (bt a0 x5_2)) = false := decide_eq_false c11
                    clear c11
                    (first | rw [c11b0] | (simp only [i64_w, i32_w]; rw [c11b0]) | skip)
                    by_cases c14 : (bt a0 x5_2) ≥ 65
                    · rw [if_pos c14] at H
                      have c14b0 : decide (65 ≤ (bt a0 x5_2)) = true := decide_eq_true c14
                      clear c14
                      have H' := Aside0.mk H
                      clear H
                      go_wp2
                      go_meet
                      case rel => exact ⟨_, (decide ((bt a0 x5_2) ≤ 90)), (by first | rfl | (simp; done) | (simp [*]; done) | (simp [*, one_size]; done)), H', ⟨by have := HJ4.out; have := HK2.out; first | omega | exact Nat.le_refl _⟩, ⟨by repeat (first | (with_reducible first | exact HB.out | apply below_alloc | apply pw_below_drewN | apply below_drew1) | exact HB.out)⟩⟩
                    · rw [if_neg c14] at H
                      have c14b0 : decide (65 ≤ (bt a0 x5_2)) = false := decide_eq_false c14
                      clear c14
                      have H' := Aside0.mk H
                      clear H
                      go_wp2
                      go_meet
                      case rel => exact ⟨_, (false), (by first | rfl | (simp; done) | (simp [*]; done) | (simp [*, one_size]; done)), H', ⟨by have := HJ4.out; have := HK2.out; first | omega | exact Nat.le_refl _⟩, ⟨by repeat (first | (with_reducible first | exact HB.out | apply below_alloc | apply pw_below_drewN | apply below_drew1) | exact HB.out)⟩⟩
                case rest =>
                  clear HC10
                  try clear c1
                  try clear c2
                  try clear c2b0
                  try clear c2b1
                  try clear p2
                  try clear c6
                  try clear c6b0
                  try clear c6b1
                  try clear c7
                  try clear c7b0
                  try clear c8
                  try clear c8b0
                  try clear c9
                  try clear p9
                  try clear q9
                  try clear hx9
                  try clear c11
                  try clear c11b0
                  try clear c12
                  try clear c12b0
                  try clear c13
                  try clear c13b0
                  try clear c14
                  try clear c14b0
                  try clear p2
                  try clear p9
                  try clear q9
                  obtain ⟨kq, x7_9, rfl, HA, HJ9, HB⟩ := hcut
                  cases kq with
                  | zero => exact absurd HA.out (by simp [topiaristlaw01_LexNames.j2])
                  | succ kj9 =>
                    have H := HA.out
                    clear HA
                    simp only [topiaristlaw01_LexNames.j2] at H
                    have HC15 := Aside0.mk H
                    clear H
                    go_upto_region 9 with (fail)
                    go_cut [3] (fun v3 wc => ∃ (kq : Nat) (x3_14 : Bool), v3 = .bool x3_14 ∧ Aside0 (topiaristlaw01_LexNames.j3 kq a0 x3_14 x4_2 x5_2 (bt a0 x5_2) = some r) ∧ Aside0 (kq ≤ kj9) ∧ Aside0 (Below w.heap.size w wc))
                    case first =>
                      have H := HC15.out
                      clear HC15
                      by_cases c16 : x3_2 = true
                      · subst c16
                        have H1 : (if x7_9 = true then (topiaristlaw01_LexNames.j3 kj9 a0 true x4_2 x5_2 (bt a0 x5_2)) else (if x5_2 > 0 then (if (bt a0 x5_2) ≥ 48 then (if (bt a0 x5_2) ≤ 57 then (topiaristlaw01_LexNames.j3 kj9 a0 true x4_2 x5_2 (bt a0 x5_2)) else (topiaristlaw01_LexNames.j3 kj9 a0 ((bt a0 x5_2) == 95) x4_2 x5_2 (bt a0 x5_2))) else (topiaristlaw01_LexNames.j3 kj9 a0 ((bt a0 x5_2) == 95) x4_2 x5_2 (bt a0 x5_2))) else (topiaristlaw01_LexNames.j3 kj9 a0 false x4_2 x5_2 (bt a0 x5_2)))) = some r := by rw [if_pos rfl] at H; exact H
                        clear H
                        have H := H1
                        clear H1
                        by_cases c17 : x7_9 = true
                        · subst c17
                          have H1 : (topiaristlaw01_LexNames.j3 kj9 a0 true x4_2 x5_2 (bt a0 x5_2)) = some r := by rw [if_pos rfl] at H; exact H
                          clear H
                          have H := H1
                          clear H1
                          have H' := Aside0.mk H
                          clear H
                          go_wp2
                          go_meet
                          case rel => exact ⟨_, (true), (by first | rfl | (simp; done) | (simp [*]; done) | (simp [*, one_size]; done)), H', ⟨by have := HJ4.out; have := HK2.out; have := HJ9.out; first | omega | exact Nat.le_refl _⟩, ⟨by repeat (first | (with_reducible first | exact HB.out | apply below_alloc | apply pw_below_drewN | apply below_drew1) | exact HB.out)⟩⟩
                        · replace c17 := Bool.eq_false_iff.mpr c17
                          subst c17
                          have H1 : (if x5_2 > 0 then (if (bt a0 x5_2) ≥ 48 then (if (bt a0 x5_2) ≤ 57 then (topiaristlaw01_LexNames.j3 kj9 a0 true x4_2 x5_2 (bt a0 x5_2)) else (topiaristlaw01_LexNames.j3 kj9 a0 ((bt a0 x5_2) == 95) x4_2 x5_2 (bt a0 x5_2))) else (topiaristlaw01_LexNames.j3 kj9 a0 ((bt a0 x5_2) == 95) x4_2 x5_2 (bt a0 x5_2))) else (topiaristlaw01_LexNames.j3 kj9 a0 false x4_2 x5_2 (bt a0 x5_2))) = some r := by rw [if_neg (show ¬ (false = true) by decide)] at H; exact H
                          clear H
                          have H := H1
                          clear H1
                          by_cases c18 : x5_2 > 0
                          · rw [if_pos c18] at H
                            have c18b0 : decide (0 < x5_2) = true := decide_eq_true c18
                            clear c18
                            (first | rw [c18b0] | (simp only [i64_w, i32_w]; rw [c18b0]) | skip)
                            by_cases c19 : (bt a0 x5_2) ≥ 48
                            · rw [if_pos c19] at H
                              have c19b0 : decide (48 ≤ (bt a0 x5_2)) = true := decide_eq_true c19
                              clear c19
                              by_cases c20 : (bt a0 x5_2) ≤ 57
                              · rw [if_pos c20] at H
                                have c20b0 : decide ((bt a0 x5_2) ≤ 57) = true := decide_eq_true c20
                                clear c20
                                have H' := Aside0.mk H
                                clear H
                                go_wp2
                                go_meet
                                case rel => exact ⟨_, (true), (by first | rfl | (simp; done) | (simp [*]; done) | (simp [*, one_size]; done)), H', ⟨by have := HJ4.out; have := HK2.out; have := HJ9.out; first | omega | exact Nat.le_refl _⟩, ⟨by repeat (first | (with_reducible first | exact HB.out | apply below_alloc | apply pw_below_drewN | apply below_drew1) | exact HB.out)⟩⟩
                              · rw [if_neg c20] at H
                                have c20b0 : decide ((bt a0 x5_2) ≤ 57) = false := decide_eq_false c20
                                clear c20
                                have H' := Aside0.mk H
                                clear H
                                go_wp2
                                go_meet
                                case rel => exact ⟨_, (((bt a0 x5_2) == 95)), (by first | rfl | (simp; done) | (simp [*]; done) | (simp [*, one_size]; done)), H', ⟨by have := HJ4.out; have := HK2.out; have := HJ9.out; first | omega | exact Nat.le_refl _⟩, ⟨by repeat (first | (with_reducible first | exact HB.out | apply below_alloc | apply pw_below_drewN | apply below_drew1) | exact HB.out)⟩⟩
                            · rw [if_neg c19] at H
                              have c19b0 : decide (48 ≤ (bt a0 x5_2)) = false := decide_eq_false c19
                              clear c19
                              have H' := Aside0.mk H
                              clear H
                              go_wp2
                              go_meet
                              case rel => exact ⟨_, (((bt a0 x5_2) == 95)), (by first | rfl | (simp; done) | (simp [*]; done) | (simp [*, one_size]; done)), H', ⟨by have := HJ4.out; have := HK2.out; have := HJ9.out; first | omega | exact Nat.le_refl _⟩, ⟨by repeat (first | (with_reducible first | exact HB.out | apply below_alloc | apply pw_below_drewN | apply below_drew1) | exact HB.out)⟩⟩
                          · rw [if_neg c18] at H
                            have c18b0 : decide (0 < x5_2) = false := decide_eq_false c18
                            clear c18
                            (first | rw [c18b0] | (simp only [i64_w, i32_w]; rw [c18b0]) | skip)
                            have H' := Aside0.mk H
                            clear H
                            go_wp2
                            go_meet
                            case rel => exact ⟨_, (false), (by first | rfl | (simp; done) | (simp [*]; done) | (simp [*, one_size]; done)), H', ⟨by have := HJ4.out; have := HK2.out; have := HJ9.out; first | omega | exact Nat.le_refl _⟩, ⟨by repeat (first | (with_reducible first | exact HB.out | apply below_alloc | apply pw_below_drewN | apply below_drew1) | exact HB.out)⟩⟩
                      · replace c16 := Bool.eq_false_iff.mpr c16
                        subst c16
                        have H1 : (topiaristlaw01_LexNames.j3 kj9 a0 false x4_2 x5_2 (bt a0 x5_2)) = some r := by rw [if_neg (show ¬ (false = true) by decide)] at H; exact H
                        clear H
                        have H := H1
                        clear H1
                        have H' := Aside0.mk H
                        clear H
                        go_wp2
                        go_meet
                        case rel => exact ⟨_, (false), (by first | rfl | (simp; done) | (simp [*]; done) | (simp [*, one_size]; done)), H', ⟨by have := HJ4.out; have := HK2.out; have := HJ9.out; first | omega | exact Nat.le_refl _⟩, ⟨by repeat (first | (with_reducible first | exact HB.out | apply below_alloc | apply pw_below_drewN | apply below_drew1) | exact HB.out)⟩⟩
                    case rest =>
                      clear HC15
                      try clear c1
                      try clear c2
                      try clear c2b0
                      try clear c2b1
                      try clear p2
                      try clear c6
                      try clear c6b0
                      try clear c6b1
                      try clear c7
                      try clear c7b0
                      try clear c8
                      try clear c8b0
                      try clear c9
                      try clear p9
                      try clear q9
                      try clear hx9
                      try clear c11
                      try clear c11b0
                      try clear c12
                      try clear c12b0
                      try clear c13
                      try clear c13b0
                      try clear c14
                      try clear c14b0
                      try clear c16
                      try clear c17
                      try clear c18
                      try clear c18b0
                      try clear c19
                      try clear c19b0
                      try clear c20
                      try clear c20b0
                      try clear p2
                      try clear p9
                      try clear q9
                      obtain ⟨kq, x3_14, rfl, HA, HJ14, HB⟩ := hcut
                      cases kq with
                      | zero => exact absurd HA.out (by simp [topiaristlaw01_LexNames.j3])
                      | succ kj14 =>
                        have H := HA.out
                        clear HA
                        simp only [topiaristlaw01_LexNames.j3] at H
                        by_cases c21 : x4_2 = true
                        · subst c21
                          have H1 : (if (bt a0 x5_2) ≥ 32 then (if (bt a0 x5_2) < 127 then (topiaristlaw01_LexNames.l0 kj14 a0 x3_14 ((bt a0 x5_2) != 39) (wrap64 (x5_2 + 1))) else (topiaristlaw01_LexNames.l0 kj14 a0 x3_14 false (wrap64 (x5_2 + 1)))) else (topiaristlaw01_LexNames.l0 kj14 a0 x3_14 false (wrap64 (x5_2 + 1)))) = some r := by rw [if_pos rfl] at H; exact H
                          clear H
                          have H := H1
                          clear H1
                          by_cases c22 : (bt a0 x5_2) ≥ 32
                          · rw [if_pos c22] at H
                            have c22b0 : decide (32 ≤ (bt a0 x5_2)) = true := decide_eq_true c22
                            clear c22
                            by_cases c23 : (bt a0 x5_2) < 127
                            · rw [if_pos c23] at H
                              have c23b0 : decide ((bt a0 x5_2) < 127) = true := decide_eq_true c23
                              clear c23
                              have H' := Aside0.mk H
                              clear H
                              go_wp2
                              go_roundg kj14
                              case measure => have := HJ4.out; have := HK2.out; have := HJ9.out; have := HJ14.out; omega
                              case rel => exact ⟨(x3_14), (((bt a0 x5_2) != 39)), (wrap64 (x5_2 + 1)), (by first | rfl | (simp; done) | (simp [*]; done) | (simp [*, one_size]; done)), (by first | rfl | (simp; done) | (simp [*]; done) | (simp [*, one_size]; done)), (by first | rfl | (simp; done) | (simp [*]; done) | (simp [*, one_size]; done)), H', ⟨by have := HJ4.out; have := HK2.out; have := HJ9.out; have := HJ14.out; omega⟩, ⟨by repeat (first | (with_reducible first | exact HB.out | apply below_alloc | apply pw_below_drewN | apply below_drew1) | exact HB.out)⟩⟩
                            · rw [if_neg c23] at H
                              have c23b0 : decide ((bt a0 x5_2) < 127) = false := decide_eq_false c23
                              clear c23
                              have H' := Aside0.mk H
                              clear H
                              go_wp2
                              go_roundg kj14
                              case measure => have := HJ4.out; have := HK2.out; have := HJ9.out; have := HJ14.out; omega
                              case rel => exact ⟨(x3_14), (false), (wrap64 (x5_2 + 1)), (by first | rfl | (simp; done) | (simp [*]; done) | (simp [*, one_size]; done)), (by first | rfl | (simp; done) | (simp [*]; done) | (simp [*, one_size]; done)), (by first | rfl | (simp; done) | (simp [*]; done) | (simp [*, one_size]; done)), H', ⟨by have := HJ4.out; have := HK2.out; have := HJ9.out; have := HJ14.out; omega⟩, ⟨by repeat (first | (with_reducible first | exact HB.out | apply below_alloc | apply pw_below_drewN | apply below_drew1) | exact HB.out)⟩⟩
                          · rw [if_neg c22] at H
                            have c22b0 : decide (32 ≤ (bt a0 x5_2)) = false := decide_eq_false c22
                            clear c22
                            have H' := Aside0.mk H
                            clear H
                            go_wp2
                            go_roundg kj14
                            case measure => have := HJ4.out; have := HK2.out; have := HJ9.out; have := HJ14.out; omega
                            case rel => exact ⟨(x3_14), (false), (wrap64 (x5_2 + 1)), (by first | rfl | (simp; done) | (simp [*]; done) | (simp [*, one_size]; done)), (by first | rfl | (simp; done) | (simp [*]; done) | (simp [*, one_size]; done)), (by first | rfl | (simp; done) | (simp [*]; done) | (simp [*, one_size]; done)), H', ⟨by have := HJ4.out; have := HK2.out; have := HJ9.out; have := HJ14.out; omega⟩, ⟨by repeat (first | (with_reducible first | exact HB.out | apply below_alloc | apply pw_below_drewN | apply below_drew1) | exact HB.out)⟩⟩
                        · replace c21 := Bool.eq_false_iff.mpr c21
                          subst c21
                          have H1 : (topiaristlaw01_LexNames.l0 kj14 a0 x3_14 false (wrap64 (x5_2 + 1))) = some r := by rw [if_neg (show ¬ (false = true) by decide)] at H; exact H
                          clear H
                          have H := H1
                          clear H1
                          have H' := Aside0.mk H
                          clear H
                          go_wp2
                          go_roundg kj14
                          case measure => have := HJ4.out; have := HK2.out; have := HJ9.out; have := HJ14.out; omega
                          case rel => exact ⟨(x3_14), (false), (wrap64 (x5_2 + 1)), (by first | rfl | (simp; done) | (simp [*]; done) | (simp [*, one_size]; done)), (by first | rfl | (simp; done) | (simp [*]; done) | (simp [*, one_size]; done)), (by first | rfl | (simp; done) | (simp [*]; done) | (simp [*, one_size]; done)), H', ⟨by have := HJ4.out; have := HK2.out; have := HJ9.out; have := HJ14.out; omega⟩, ⟨by repeat (first | (with_reducible first | exact HB.out | apply below_alloc | apply pw_below_drewN | apply below_drew1) | exact HB.out)⟩⟩
              · rw [if_neg c8] at H
                exact absurd H (by simp)
            · rw [if_neg c7] at H
              have c7b0 : decide (x5_2 < (a0.size : Int)) = false := decide_eq_false c7
              clear c7
              replace H := Option.bind_eq_some_iff.mp H
              obtain ⟨⟨t102, t105, t106⟩, A240, H⟩ := H
              replace H : (if t105 = 0 then (if (t102.length : Int) = 1 then (if 0 < (t102.length : Int) then (topiaristlaw01_LexNames.j4 k2 a0 x3_2 x4_2 (((rd_T36 t102 0).f0) == 1 && ((((rd_T36 t102 0).f1).toList) == a0.toList && (((rd_T36 t102 0).f2) == 0)))) else (none)) else (topiaristlaw01_LexNames.j4 k2 a0 x3_2 x4_2 false)) else (topiaristlaw01_LexNames.j4 k2 a0 x3_2 x4_2 false)) = some r := H
              have A24 := Aside0.mk A240
              clear A240
              have HC25 := Aside0.mk H
              clear H
              go_upto_region 12 with (first | ((with_reducible refine gate_callee (f := 10) rfl ?_); refine goesL_ (some 92) rfl rfl Try.func10 (by kernel_rfl) rfl #[.string a0] rfl (by (try simp only [List.map_toArray, List.map_cons, List.map_nil]); first | done | rfl | (simp only [List.length_drop, List.length_take]; rfl)) ?_; (with_reducible refine (lex_Tokens.calls a0 t102 t105 t106 _ A24.out).mono ?_); rintro e w26 ⟨v103, rfl, ho0, hb⟩; refine ⟨_, rfl, ?_⟩; have n0_ := Aside0.mk (Kd.R_lower ho0 (below_size (by repeat (first | (with_reducible first | exact HB.out | apply below_alloc | apply pw_below_drewN | apply below_drew1) | exact HB.out)))); have n1_ := Aside0.mk (below_step (by repeat (first | (with_reducible first | exact HB.out | apply below_alloc | apply pw_below_drewN | apply below_drew1) | exact HB.out)) hb); clear HB; have HO104 := n0_; have HB := n1_; clear n0_ n1_; (try clear hb); (try clear hb2); (try clear hk); (try clear hi); (try clear ho0)) | ((with_reducible refine gate_dst (N := 9) rfl ?_); (try (refine gate_guard (by rfl) ?_; dsimp only)); refine box_event ?hg (N := 9) ?hd (cs := #[.int .i64 0, .int .i64 0]) (t := 26) ?hr ?_; (case hd => rfl); (case hg => rfl); (case hr => first | (go_simp; done) | (go_simp; rfl)); intro gb107 hg w27 hbox hb; have n0_ := Aside0.mk (Kd.R_below (by (with_reducible repeat (first | apply Kd.R_alloc | apply Kd.R_drewN | apply Kd.R_drew)); exact HO104.out) hb); have n1_ := Aside0.mk (below_step (by repeat (first | (with_reducible first | exact HB.out | apply below_alloc | apply pw_below_drewN | apply below_drew1) | exact HB.out)) hb); have n2_ := Aside0.mk (hbox); have n3_ := Aside0.mk ((by rw [hg]; exact (below_size (by repeat (first | (with_reducible first | exact HB.out | apply below_alloc | apply pw_below_drewN | apply below_drew1) | exact HB.out))) : w.heap.size ≤ gb107)); have n4_ := Aside0.mk ((by rw [hg]; exact (below_size (by repeat (first | (with_reducible first | exact HB.out | apply below_alloc | apply pw_below_drewN | apply below_drew1) | exact HB.out))) : w.heap.size ≤ gb107)); clear HO104; clear HB; have HO104 := n0_; have HB := n1_; have BK107 := n2_; have GW107 := n3_; have GE107 := n4_; clear n0_ n1_ n2_ n3_ n4_; clear hb hbox hg; have hcz28_0 : w27.cell? ⟨gb107, 0, none⟩ = some (.int .i64 0) := (blk_cell BK107.out 0).trans rfl; have hcz28_1 : w27.cell? ⟨gb107, 1, none⟩ = some (.int .i64 0) := (blk_cell BK107.out 1).trans rfl; have hfz28_0 := blk_frozen BK107.out 0; have hfz28_1 := blk_frozen BK107.out 1))
              (try simp only [Act.put, List.setIfInBounds_toArray, List.set_cons_zero, List.set_cons_succ])
              go_cut [10] (fun v10 wc => ∃ (kq : Nat) (x10_24 : Bool), v10 = .bool x10_24 ∧ Aside0 (topiaristlaw01_LexNames.j4 kq a0 x3_2 x4_2 x10_24 = some r) ∧ Aside0 (kq ≤ k2) ∧ Aside0 (wc.heap[gb107]? = some (.cells #[.int .i64 t105, .int .i64 t106] 26 (0, 0))) ∧ Aside0 (Below w.heap.size w wc))
              case first =>
                have H := HC25.out
                clear HC25
                by_cases c29 : t105 = 0
                · rw [if_pos c29] at H
                  have c29b0 : (t105 == 0) = true := beq_iff_eq.mpr c29
                  have c29b1 : (t105 != 0) = false := bne_eq_false_iff_eq.mpr c29
                  clear c29
                  (first | rw [c29b0] | (simp only [i64_w, i32_w]; rw [c29b0]) | skip)
                  by_cases c30 : (t102.length : Int) = 1
                  · rw [if_pos c30] at H
                    have c30b0 : ((t102.length : Int) == 1) = true := beq_iff_eq.mpr c30
                    have c30b1 : ((t102.length : Int) != 1) = false := bne_eq_false_iff_eq.mpr c30
                    clear c30
                    by_cases c31 : 0 < (t102.length : Int)
                    · rw [if_pos c31] at H
                      have c31b0 : decide (0 < (t102.length : Int)) = true := decide_eq_true c31
                      have c31b1 : decide (0 < t102.length) = true := decide_eq_true (by omega)
                      clear c31
                      have H' := Aside0.mk H
                      clear H
                      have hcz32_0 : w27.cell? ⟨gb107, 0, none⟩ = some (.int .i64 0) := (blk_cell BK107.out 0).trans rfl
                      have hcz32_1 : w27.cell? ⟨gb107, 1, none⟩ = some (.int .i64 0) := (blk_cell BK107.out 1).trans rfl
                      have hfz32_0 := blk_frozen BK107.out 0
                      have hfz32_1 := blk_frozen BK107.out 1
                      obtain ⟨Ao33, co33, eo33⟩ := Kd.R_slice HO104.out
                      subst eo33
                      have p108 : 0 ≤ (0 : Int) := (by omega)
                      have q108 : 0 < (t102.length : Int) := of_decide_eq_true (by first | (with_reducible assumption) | assumption)
                      obtain ⟨ad108, e108, hx108_0, hx108_1, hx108_2⟩ := at_T36 (Kd.R_reads' HO104.out).2.2 0 p108 q108
                      cases e108
                      have qi108 : (0 < t102.length) = True := eq_true (by omega)
                      (try rw [show ((0 : Int)).toNat = 0 from rfl] at hx108_0)
                      (try rw [show 0 * 3 = 0 from rfl] at hx108_0)
                      (try rw [Addr.add_zero'] at hx108_0)
                      (try rw [show ((0 : Int)).toNat = 0 from rfl] at hx108_1)
                      (try rw [show 0 * 3 = 0 from rfl] at hx108_1)
                      (try rw [Addr.add_zero'] at hx108_1)
                      (try rw [show ((0 : Int)).toNat = 0 from rfl] at hx108_2)
                      (try rw [show 0 * 3 = 0 from rfl] at hx108_2)
                      (try rw [Addr.add_zero'] at hx108_2)
                      have hn108_0 : ad108.block ≠ gb107 := Kd.own_blk (Kd.R_ne HO104.out BK107.out (by decide))
                      have hn108_1 : ad108.block ≠ gb107 := Kd.own_blk (Kd.R_ne HO104.out BK107.out (by decide))
                      replace hx108_0 := (cell_far (p := ⟨gb107, 0, none⟩) (by first | (rw [add_block]; exact hn108_0) | (show (Addr.add _ _).block ≠ _; rw [add_block]; exact hn108_0) | exact hn108_0) (.int .i64 t105)).trans hx108_0
                      replace hx108_1 := (cell_far (p := ⟨gb107, 0, none⟩) (by first | (rw [add_block]; exact hn108_0) | (show (Addr.add _ _).block ≠ _; rw [add_block]; exact hn108_0) | exact hn108_0) (.int .i64 t105)).trans hx108_1
                      replace hx108_2 := (cell_far (p := ⟨gb107, 0, none⟩) (by first | (rw [add_block]; exact hn108_0) | (show (Addr.add _ _).block ≠ _; rw [add_block]; exact hn108_0) | exact hn108_0) (.int .i64 t105)).trans hx108_2
                      replace hx108_0 := (cell_far (p := ⟨gb107, 1, none⟩) (by first | (rw [add_block]; exact hn108_1) | (show (Addr.add _ _).block ≠ _; rw [add_block]; exact hn108_1) | exact hn108_1) (.int .i64 t106)).trans hx108_0
                      replace hx108_1 := (cell_far (p := ⟨gb107, 1, none⟩) (by first | (rw [add_block]; exact hn108_1) | (show (Addr.add _ _).block ≠ _; rw [add_block]; exact hn108_1) | exact hn108_1) (.int .i64 t106)).trans hx108_1
                      replace hx108_2 := (cell_far (p := ⟨gb107, 1, none⟩) (by first | (rw [add_block]; exact hn108_1) | (show (Addr.add _ _).block ≠ _; rw [add_block]; exact hn108_1) | exact hn108_1) (.int .i64 t106)).trans hx108_2
                      clear hn108_0
                      clear hn108_1
                      replace p108 := eq_true p108
                      replace q108 := eq_true q108
                      go_wp2
                      go_meet
                      case rel => exact ⟨_, ((((rd_T36 t102 0).f0) == 1 && ((((rd_T36 t102 0).f1).toList) == a0.toList && (((rd_T36 t102 0).f2) == 0)))), (by first | rfl | (simp; done) | (simp [*]; done) | (simp [*, one_size]; done)), H', ⟨by have := HJ4.out; have := HK2.out; first | omega | exact Nat.le_refl _⟩, ⟨by (with_reducible repeat (first | refine blk_drewN ?_ _ | refine blk_drew ?_ | refine blk_alloc ?_ _)); refine blk_put (cs := #[.int .i64 t105, .int .i64 0]) ?_ 1 _ rfl; (with_reducible repeat (first | refine blk_drewN ?_ _ | refine blk_drew ?_ | refine blk_alloc ?_ _)); refine blk_put (cs := #[.int .i64 0, .int .i64 0]) ?_ 0 _ rfl; (with_reducible repeat (first | refine blk_drewN ?_ _ | refine blk_drew ?_ | refine blk_alloc ?_ _)); exact BK107.out⟩, ⟨by repeat (first | (with_reducible first | exact HB.out | apply below_alloc | apply pw_below_drewN | apply below_drew1 | refine below_set ?_ GE107.out) | exact HB.out)⟩⟩
                    · rw [if_neg c31] at H
                      exact absurd H (by simp)
                  · rw [if_neg c30] at H
                    have c30b0 : ((t102.length : Int) == 1) = false := beq_eq_false_iff_ne.mpr c30
                    have c30b1 : ((t102.length : Int) != 1) = true := bne_iff_ne.mpr c30
                    have H' := Aside0.mk H
                    clear H
                    have hcz34_0 : w27.cell? ⟨gb107, 0, none⟩ = some (.int .i64 0) := (blk_cell BK107.out 0).trans rfl
                    have hcz34_1 : w27.cell? ⟨gb107, 1, none⟩ = some (.int .i64 0) := (blk_cell BK107.out 1).trans rfl
                    have hfz34_0 := blk_frozen BK107.out 0
                    have hfz34_1 := blk_frozen BK107.out 1
                    obtain ⟨Ao35, co35, eo35⟩ := Kd.R_slice HO104.out
                    subst eo35
                    go_wp2
                    go_meet
                    case rel => exact ⟨_, (false), (by first | rfl | (simp; done) | (simp [*]; done) | (simp [*, one_size]; done)), H', ⟨by have := HJ4.out; have := HK2.out; first | omega | exact Nat.le_refl _⟩, ⟨by (with_reducible repeat (first | refine blk_drewN ?_ _ | refine blk_drew ?_ | refine blk_alloc ?_ _)); refine blk_put (cs := #[.int .i64 t105, .int .i64 0]) ?_ 1 _ rfl; (with_reducible repeat (first | refine blk_drewN ?_ _ | refine blk_drew ?_ | refine blk_alloc ?_ _)); refine blk_put (cs := #[.int .i64 0, .int .i64 0]) ?_ 0 _ rfl; (with_reducible repeat (first | refine blk_drewN ?_ _ | refine blk_drew ?_ | refine blk_alloc ?_ _)); exact BK107.out⟩, ⟨by repeat (first | (with_reducible first | exact HB.out | apply below_alloc | apply pw_below_drewN | apply below_drew1 | refine below_set ?_ GE107.out) | exact HB.out)⟩⟩
                · rw [if_neg c29] at H
                  have c29b0 : (t105 == 0) = false := beq_eq_false_iff_ne.mpr c29
                  have c29b1 : (t105 != 0) = true := bne_iff_ne.mpr c29
                  (first | rw [c29b0] | (simp only [i64_w, i32_w]; rw [c29b0]) | skip)
                  have H' := Aside0.mk H
                  clear H
                  have hcz36_0 : w27.cell? ⟨gb107, 0, none⟩ = some (.int .i64 0) := (blk_cell BK107.out 0).trans rfl
                  have hcz36_1 : w27.cell? ⟨gb107, 1, none⟩ = some (.int .i64 0) := (blk_cell BK107.out 1).trans rfl
                  have hfz36_0 := blk_frozen BK107.out 0
                  have hfz36_1 := blk_frozen BK107.out 1
                  go_wp2
                  go_meet
                  case rel => exact ⟨_, (false), (by first | rfl | (simp; done) | (simp [*]; done) | (simp [*, one_size]; done)), H', ⟨by have := HJ4.out; have := HK2.out; first | omega | exact Nat.le_refl _⟩, ⟨by (with_reducible repeat (first | refine blk_drewN ?_ _ | refine blk_drew ?_ | refine blk_alloc ?_ _)); refine blk_put (cs := #[.int .i64 t105, .int .i64 0]) ?_ 1 _ rfl; (with_reducible repeat (first | refine blk_drewN ?_ _ | refine blk_drew ?_ | refine blk_alloc ?_ _)); refine blk_put (cs := #[.int .i64 0, .int .i64 0]) ?_ 0 _ rfl; (with_reducible repeat (first | refine blk_drewN ?_ _ | refine blk_drew ?_ | refine blk_alloc ?_ _)); exact BK107.out⟩, ⟨by repeat (first | (with_reducible first | exact HB.out | apply below_alloc | apply pw_below_drewN | apply below_drew1 | refine below_set ?_ GE107.out) | exact HB.out)⟩⟩
              case rest =>
                clear HC25
                try clear c1
                try clear p1
                try clear q1
                try clear hx1
                try clear qi1
                try clear c2
                try clear c2b0
                try clear c2b1
                try clear p2
                try clear c3
                try clear c6
                try clear c6b0
                try clear c6b1
                try clear p6
                try clear c7
                try clear c7b0
                try clear c8
                try clear c8b0
                try clear c9
                try clear p9
                try clear q9
                try clear hx9
                try clear c10
                try clear p10
                try clear q10
                try clear hx10
                try clear qi10
                try clear c11
                try clear c11b0
                try clear c12
                try clear c12b0
                try clear c13
                try clear c13b0
                try clear c14
                try clear c14b0
                try clear c16
                try clear c17
                try clear c18
                try clear c18b0
                try clear c19
                try clear c19b0
                try clear c20
                try clear c20b0
                try clear c21
                try clear c22
                try clear c22b0
                try clear c23
                try clear c23b0
                try clear c29
                try clear c29b0
                try clear c29b1
                try clear c30
                try clear c30b0
                try clear c30b1
                try clear c31
                try clear c31b0
                try clear c31b1
                try clear hcz28_0
                try clear hcz28_1
                try clear hcz32_0
                try clear hcz32_1
                try clear hcz34_0
                try clear hcz34_1
                try clear hcz36_0
                try clear hcz36_1
                try clear hfz28_0
                try clear hfz28_1
                try clear hfz32_0
                try clear hfz32_1
                try clear hfz34_0
                try clear hfz34_1
                try clear hfz36_0
                try clear hfz36_1
                try clear hx108_0
                try clear hx108_1
                try clear hx108_2
                try clear p108
                try clear p2
                try clear p9
                try clear q108
                try clear q9
                obtain ⟨kq, x10_24, rfl, HA, HJ24, BK107, HB⟩ := hcut
                cases kq with
                | zero => exact absurd HA.out (by simp [topiaristlaw01_LexNames.j4])
                | succ kj24 =>
                  have H := HA.out
                  clear HA
                  simp only [topiaristlaw01_LexNames.j4] at H
                  by_cases c37 : 1 + a0.size ≤ 9223372036854775807
                  · rw [if_pos c37] at H
                    have c37b0 := eq_true c37
                    try (have c37n := c37; simp only [ByteArray.size_append, Int.natCast_add, one_size, Int.natCast_one, Int.cast_ofNat_Int] at c37n)
                    have c37b1 : decide (1 + a0.size ≤ 9223372036854775807) = true := decide_eq_true c37
                    try have c37b2 : (9223372036854775807 < 1 + a0.size) = False := eq_false (Nat.not_lt.2 c37)
                    by_cases c38 : ((⟨#[39]⟩ : ByteArray) ++ a0).size + 1 ≤ 9223372036854775807
                    · rw [if_pos c38] at H
                      have c38b0 := eq_true c38
                      try (have c38n := c38; simp only [ByteArray.size_append, Int.natCast_add, one_size, Int.natCast_one, Int.cast_ofNat_Int] at c38n)
                      have c38b1 : decide (((⟨#[39]⟩ : ByteArray) ++ a0).size + 1 ≤ 9223372036854775807) = true := decide_eq_true c38
                      try (have c38b1n := c38b1; simp only [ByteArray.size_append, Int.natCast_add, one_size, Int.natCast_one, Int.cast_ofNat_Int] at c38b1n)
                      try have c38b2 : (9223372036854775807 < ((⟨#[39]⟩ : ByteArray) ++ a0).size + 1) = False := eq_false (Nat.not_lt.2 c38)
                      try (have c38b2n := c38b2; simp only [ByteArray.size_append, Int.natCast_add, one_size, Int.natCast_one, Int.cast_ofNat_Int] at c38b2n)
                      replace H := Option.bind_eq_some_iff.mp H
                      obtain ⟨⟨t109, t112, t113⟩, A390, H⟩ := H
                      replace H : (if t112 = 0 then (if (t109.length : Int) = 1 then (if 0 < (t109.length : Int) then (topiaristlaw01_LexNames.j5 kj24 a0 x3_2 x4_2 x10_24 (((rd_T36 t109 0).f0) == 2 && ((((rd_T36 t109 0).f1).toList) == a0.toList && (((rd_T36 t109 0).f2) == 0)))) else (none)) else (topiaristlaw01_LexNames.j5 kj24 a0 x3_2 x4_2 x10_24 false)) else (topiaristlaw01_LexNames.j5 kj24 a0 x3_2 x4_2 x10_24 false)) = some r := H
                      have A39 := Aside0.mk A390
                      clear A390
                      have HC40 := Aside0.mk H
                      clear H
                      go_upto_region 14 with (first | ((with_reducible refine gate_callee (f := 10) rfl ?_); refine goesL_ (some 115) rfl rfl Try.func10 (by kernel_rfl) rfl #[.string (((⟨#[39]⟩ : ByteArray) ++ a0) ++ (⟨#[39]⟩ : ByteArray))] rfl (by (try simp only [List.map_toArray, List.map_cons, List.map_nil]); first | done | rfl | (simp only [List.length_drop, List.length_take]; rfl)) ?_; (with_reducible refine (lex_Tokens.calls (((⟨#[39]⟩ : ByteArray) ++ a0) ++ (⟨#[39]⟩ : ByteArray)) t109 t112 t113 _ A39.out).mono ?_); rintro e w41 ⟨v110, rfl, ho0, hb⟩; refine ⟨_, rfl, ?_⟩; have n0_ := Aside0.mk (Kd.R_lower ho0 (below_size (by repeat (first | (with_reducible first | exact HB.out | apply below_alloc | apply pw_below_drewN | apply below_drew1 | refine below_set ?_ GE107.out) | exact HB.out)))); have n1_ := Aside0.mk (blk_below (g := gb107) (o := .cells #[.int .i64 t105, .int .i64 t106] 26 (0, 0)) (by (with_reducible repeat (first | refine blk_drewN ?_ _ | refine blk_drew ?_ | refine blk_alloc ?_ _)); exact BK107.out) hb); have n2_ := Aside0.mk (below_step (by repeat (first | (with_reducible first | exact HB.out | apply below_alloc | apply pw_below_drewN | apply below_drew1 | refine below_set ?_ GE107.out) | exact HB.out)) hb); clear BK107; clear HB; have HO111 := n0_; have BK107 := n1_; have HB := n2_; clear n0_ n1_ n2_; (try clear hb); (try clear hb2); (try clear hk); (try clear hi); (try clear ho0)) | ((with_reducible refine gate_dst (N := 12) rfl ?_); (try (refine gate_guard (by rfl) ?_; dsimp only)); refine box_event ?hg (N := 12) ?hd (cs := #[.int .i64 0, .int .i64 0]) (t := 26) ?hr ?_; (case hd => rfl); (case hg => rfl); (case hr => first | (go_simp; done) | (go_simp; rfl)); intro gb114 hg w42 hbox hb; have n0_ := Aside0.mk (Kd.R_below (by (with_reducible repeat (first | apply Kd.R_alloc | apply Kd.R_drewN | apply Kd.R_drew)); exact HO111.out) hb); have n1_ := Aside0.mk (blk_below (g := gb107) (o := .cells #[.int .i64 t105, .int .i64 t106] 26 (0, 0)) (by (with_reducible repeat (first | refine blk_drewN ?_ _ | refine blk_drew ?_ | refine blk_alloc ?_ _)); exact BK107.out) hb); have n2_ := Aside0.mk (below_step (by repeat (first | (with_reducible first | exact HB.out | apply below_alloc | apply pw_below_drewN | apply below_drew1 | refine below_set ?_ GE107.out) | exact HB.out)) hb); have n3_ := Aside0.mk (hbox); have n4_ := Aside0.mk ((by rw [hg]; exact (below_size (by repeat (first | (with_reducible first | exact HB.out | apply below_alloc | apply pw_below_drewN | apply below_drew1 | refine below_set ?_ GE107.out) | exact HB.out))) : w.heap.size ≤ gb114)); have n5_ := Aside0.mk ((by rw [hg]; exact (below_size (by repeat (first | (with_reducible first | exact HB.out | apply below_alloc | apply pw_below_drewN | apply below_drew1 | refine below_set ?_ GE107.out) | exact HB.out))) : w.heap.size ≤ gb114)); have n6_ := Aside0.mk ((by rw [hg]; exact Nat.ne_of_lt (blk_lt (g := gb107) (o := .cells #[.int .i64 t105, .int .i64 t106] 26 (0, 0)) (by (with_reducible repeat (first | refine blk_drewN ?_ _ | refine blk_drew ?_ | refine blk_alloc ?_ _)); exact BK107.out)) : gb107 ≠ gb114)); have n7_ := Aside0.mk ((by rw [hg]; exact Nat.ne_of_gt (blk_lt (g := gb107) (o := .cells #[.int .i64 t105, .int .i64 t106] 26 (0, 0)) (by (with_reducible repeat (first | refine blk_drewN ?_ _ | refine blk_drew ?_ | refine blk_alloc ?_ _)); exact BK107.out)) : gb114 ≠ gb107)); clear HO111; clear BK107; clear HB; have HO111 := n0_; have BK107 := n1_; have HB := n2_; have BK114 := n3_; have GW114 := n4_; have GE114 := n5_; have NB107_114 := n6_; have NB114_107 := n7_; clear n0_ n1_ n2_ n3_ n4_ n5_ n6_ n7_; clear hb hbox hg; have hnb43 := NB114_107.out; have hnc43 := NB107_114.out; have hcz44_0 : w42.cell? ⟨gb114, 0, none⟩ = some (.int .i64 0) := (blk_cell BK114.out 0).trans rfl; have hcz44_1 : w42.cell? ⟨gb114, 1, none⟩ = some (.int .i64 0) := (blk_cell BK114.out 1).trans rfl; have hfz44_0 := blk_frozen BK114.out 0; have hfz44_1 := blk_frozen BK114.out 1))
                      (try simp only [Act.put, List.setIfInBounds_toArray, List.set_cons_zero, List.set_cons_succ])
                      go_cut [13] (fun v13 wc => ∃ (kq : Nat) (x13_39 : Bool), v13 = .bool x13_39 ∧ Aside0 (topiaristlaw01_LexNames.j5 kq a0 x3_2 x4_2 x10_24 x13_39 = some r) ∧ Aside0 (kq ≤ kj24) ∧ Aside0 (wc.heap[gb107]? = some (.cells #[.int .i64 t105, .int .i64 t106] 26 (0, 0))) ∧ Aside0 (wc.heap[gb114]? = some (.cells #[.int .i64 t112, .int .i64 t113] 26 (0, 0))) ∧ Aside0 (Below w.heap.size w wc))
                      case first =>
                        have H := HC40.out
                        clear HC40
                        by_cases c45 : t112 = 0
                        · rw [if_pos c45] at H
                          have c45b0 : (t112 == 0) = true := beq_iff_eq.mpr c45
                          have c45b1 : (t112 != 0) = false := bne_eq_false_iff_eq.mpr c45
                          clear c45
                          (first | rw [c45b0] | (simp only [i64_w, i32_w]; rw [c45b0]) | skip)
                          by_cases c46 : (t109.length : Int) = 1
                          · rw [if_pos c46] at H
                            have c46b0 : ((t109.length : Int) == 1) = true := beq_iff_eq.mpr c46
                            have c46b1 : ((t109.length : Int) != 1) = false := bne_eq_false_iff_eq.mpr c46
                            clear c46
                            by_cases c47 : 0 < (t109.length : Int)
                            · rw [if_pos c47] at H
                              have c47b0 : decide (0 < (t109.length : Int)) = true := decide_eq_true c47
                              have c47b1 : decide (0 < t109.length) = true := decide_eq_true (by omega)
                              clear c47
                              have H' := Aside0.mk H
                              clear H
                              have hnb48 := NB114_107.out
                              have hnc48 := NB107_114.out
                              have hcz49_0 : w42.cell? ⟨gb114, 0, none⟩ = some (.int .i64 0) := (blk_cell BK114.out 0).trans rfl
                              have hcz49_1 : w42.cell? ⟨gb114, 1, none⟩ = some (.int .i64 0) := (blk_cell BK114.out 1).trans rfl
                              have hfz49_0 := blk_frozen BK114.out 0
                              have hfz49_1 := blk_frozen BK114.out 1
                              obtain ⟨Ao50, co50, eo50⟩ := Kd.R_slice HO111.out
                              subst eo50
                              have p115 : 0 ≤ (0 : Int) := (by omega)
                              have q115 : 0 < (t109.length : Int) := of_decide_eq_true (by first | (with_reducible assumption) | assumption)
                              obtain ⟨ad115, e115, hx115_0, hx115_1, hx115_2⟩ := at_T36 (Kd.R_reads' HO111.out).2.2 0 p115 q115
                              cases e115
                              have qi115 : (0 < t109.length) = True := eq_true (by omega)
                              (try rw [show ((0 : Int)).toNat = 0 from rfl] at hx115_0)
                              (try rw [show 0 * 3 = 0 from rfl] at hx115_0)
                              (try rw [Addr.add_zero'] at hx115_0)
                              (try rw [show ((0 : Int)).toNat = 0 from rfl] at hx115_1)
                              (try rw [show 0 * 3 = 0 from rfl] at hx115_1)
                              (try rw [Addr.add_zero'] at hx115_1)
                              (try rw [show ((0 : Int)).toNat = 0 from rfl] at hx115_2)
                              (try rw [show 0 * 3 = 0 from rfl] at hx115_2)
                              (try rw [Addr.add_zero'] at hx115_2)
                              have hn115_0 : ad115.block ≠ gb114 := Kd.own_blk (Kd.R_ne HO111.out BK114.out (by decide))
                              have hn115_1 : ad115.block ≠ gb114 := Kd.own_blk (Kd.R_ne HO111.out BK114.out (by decide))
                              replace hx115_0 := (cell_far (p := ⟨gb114, 0, none⟩) (by first | (rw [add_block]; exact hn115_0) | (show (Addr.add _ _).block ≠ _; rw [add_block]; exact hn115_0) | exact hn115_0) (.int .i64 t112)).trans hx115_0
                              replace hx115_1 := (cell_far (p := ⟨gb114, 0, none⟩) (by first | (rw [add_block]; exact hn115_0) | (show (Addr.add _ _).block ≠ _; rw [add_block]; exact hn115_0) | exact hn115_0) (.int .i64 t112)).trans hx115_1
                              replace hx115_2 := (cell_far (p := ⟨gb114, 0, none⟩) (by first | (rw [add_block]; exact hn115_0) | (show (Addr.add _ _).block ≠ _; rw [add_block]; exact hn115_0) | exact hn115_0) (.int .i64 t112)).trans hx115_2
                              replace hx115_0 := (cell_far (p := ⟨gb114, 1, none⟩) (by first | (rw [add_block]; exact hn115_1) | (show (Addr.add _ _).block ≠ _; rw [add_block]; exact hn115_1) | exact hn115_1) (.int .i64 t113)).trans hx115_0
                              replace hx115_1 := (cell_far (p := ⟨gb114, 1, none⟩) (by first | (rw [add_block]; exact hn115_1) | (show (Addr.add _ _).block ≠ _; rw [add_block]; exact hn115_1) | exact hn115_1) (.int .i64 t113)).trans hx115_1
                              replace hx115_2 := (cell_far (p := ⟨gb114, 1, none⟩) (by first | (rw [add_block]; exact hn115_1) | (show (Addr.add _ _).block ≠ _; rw [add_block]; exact hn115_1) | exact hn115_1) (.int .i64 t113)).trans hx115_2
                              clear hn115_0
                              clear hn115_1
                              replace p115 := eq_true p115
                              replace q115 := eq_true q115
                              go_wp2
                              go_meet
                              case rel => exact ⟨_, ((((rd_T36 t109 0).f0) == 2 && ((((rd_T36 t109 0).f1).toList) == a0.toList && (((rd_T36 t109 0).f2) == 0)))), (by first | rfl | (simp; done) | (simp [*]; done) | (simp [*, one_size]; done)), H', ⟨by have := HJ4.out; have := HK2.out; have := HJ24.out; first | omega | exact Nat.le_refl _⟩, ⟨by (with_reducible repeat (first | refine blk_drewN ?_ _ | refine blk_drew ?_ | refine blk_alloc ?_ _)); refine blk_far ?_ NB107_114.out _; (with_reducible repeat (first | refine blk_drewN ?_ _ | refine blk_drew ?_ | refine blk_alloc ?_ _)); refine blk_far ?_ NB107_114.out _; (with_reducible repeat (first | refine blk_drewN ?_ _ | refine blk_drew ?_ | refine blk_alloc ?_ _)); exact BK107.out⟩, ⟨by (with_reducible repeat (first | refine blk_drewN ?_ _ | refine blk_drew ?_ | refine blk_alloc ?_ _)); refine blk_put (cs := #[.int .i64 t112, .int .i64 0]) ?_ 1 _ rfl; (with_reducible repeat (first | refine blk_drewN ?_ _ | refine blk_drew ?_ | refine blk_alloc ?_ _)); refine blk_put (cs := #[.int .i64 0, .int .i64 0]) ?_ 0 _ rfl; (with_reducible repeat (first | refine blk_drewN ?_ _ | refine blk_drew ?_ | refine blk_alloc ?_ _)); exact BK114.out⟩, ⟨by repeat (first | (with_reducible first | exact HB.out | apply below_alloc | apply pw_below_drewN | apply below_drew1 | refine below_set ?_ GE107.out | refine below_set ?_ GE114.out) | exact HB.out)⟩⟩
                            · rw [if_neg c47] at H
                              exact absurd H (by simp)
                          · rw [if_neg c46] at H
                            have c46b0 : ((t109.length : Int) == 1) = false := beq_eq_false_iff_ne.mpr c46
                            have c46b1 : ((t109.length : Int) != 1) = true := bne_iff_ne.mpr c46
                            have H' := Aside0.mk H
                            clear H
                            have hnb51 := NB114_107.out
                            have hnc51 := NB107_114.out
                            have hcz52_0 : w42.cell? ⟨gb114, 0, none⟩ = some (.int .i64 0) := (blk_cell BK114.out 0).trans rfl
                            have hcz52_1 : w42.cell? ⟨gb114, 1, none⟩ = some (.int .i64 0) := (blk_cell BK114.out 1).trans rfl
                            have hfz52_0 := blk_frozen BK114.out 0
                            have hfz52_1 := blk_frozen BK114.out 1
                            obtain ⟨Ao53, co53, eo53⟩ := Kd.R_slice HO111.out
                            subst eo53
                            go_wp2
                            go_meet
                            case rel => exact ⟨_, (false), (by first | rfl | (simp; done) | (simp [*]; done) | (simp [*, one_size]; done)), H', ⟨by have := HJ4.out; have := HK2.out; have := HJ24.out; first | omega | exact Nat.le_refl _⟩, ⟨by (with_reducible repeat (first | refine blk_drewN ?_ _ | refine blk_drew ?_ | refine blk_alloc ?_ _)); refine blk_far ?_ NB107_114.out _; (with_reducible repeat (first | refine blk_drewN ?_ _ | refine blk_drew ?_ | refine blk_alloc ?_ _)); refine blk_far ?_ NB107_114.out _; (with_reducible repeat (first | refine blk_drewN ?_ _ | refine blk_drew ?_ | refine blk_alloc ?_ _)); exact BK107.out⟩, ⟨by (with_reducible repeat (first | refine blk_drewN ?_ _ | refine blk_drew ?_ | refine blk_alloc ?_ _)); refine blk_put (cs := #[.int .i64 t112, .int .i64 0]) ?_ 1 _ rfl; (with_reducible repeat (first | refine blk_drewN ?_ _ | refine blk_drew ?_ | refine blk_alloc ?_ _)); refine blk_put (cs := #[.int .i64 0, .int .i64 0]) ?_ 0 _ rfl; (with_reducible repeat (first | refine blk_drewN ?_ _ | refine blk_drew ?_ | refine blk_alloc ?_ _)); exact BK114.out⟩, ⟨by repeat (first | (with_reducible first | exact HB.out | apply below_alloc | apply pw_below_drewN | apply below_drew1 | refine below_set ?_ GE107.out | refine below_set ?_ GE114.out) | exact HB.out)⟩⟩
                        · rw [if_neg c45] at H
                          have c45b0 : (t112 == 0) = false := beq_eq_false_iff_ne.mpr c45
                          have c45b1 : (t112 != 0) = true := bne_iff_ne.mpr c45
                          (first | rw [c45b0] | (simp only [i64_w, i32_w]; rw [c45b0]) | skip)
                          have H' := Aside0.mk H
                          clear H
                          have hnb54 := NB114_107.out
                          have hnc54 := NB107_114.out
                          have hcz55_0 : w42.cell? ⟨gb114, 0, none⟩ = some (.int .i64 0) := (blk_cell BK114.out 0).trans rfl
                          have hcz55_1 : w42.cell? ⟨gb114, 1, none⟩ = some (.int .i64 0) := (blk_cell BK114.out 1).trans rfl
                          have hfz55_0 := blk_frozen BK114.out 0
                          have hfz55_1 := blk_frozen BK114.out 1
                          go_wp2
                          go_meet
                          case rel => exact ⟨_, (false), (by first | rfl | (simp; done) | (simp [*]; done) | (simp [*, one_size]; done)), H', ⟨by have := HJ4.out; have := HK2.out; have := HJ24.out; first | omega | exact Nat.le_refl _⟩, ⟨by (with_reducible repeat (first | refine blk_drewN ?_ _ | refine blk_drew ?_ | refine blk_alloc ?_ _)); refine blk_far ?_ NB107_114.out _; (with_reducible repeat (first | refine blk_drewN ?_ _ | refine blk_drew ?_ | refine blk_alloc ?_ _)); refine blk_far ?_ NB107_114.out _; (with_reducible repeat (first | refine blk_drewN ?_ _ | refine blk_drew ?_ | refine blk_alloc ?_ _)); exact BK107.out⟩, ⟨by (with_reducible repeat (first | refine blk_drewN ?_ _ | refine blk_drew ?_ | refine blk_alloc ?_ _)); refine blk_put (cs := #[.int .i64 t112, .int .i64 0]) ?_ 1 _ rfl; (with_reducible repeat (first | refine blk_drewN ?_ _ | refine blk_drew ?_ | refine blk_alloc ?_ _)); refine blk_put (cs := #[.int .i64 0, .int .i64 0]) ?_ 0 _ rfl; (with_reducible repeat (first | refine blk_drewN ?_ _ | refine blk_drew ?_ | refine blk_alloc ?_ _)); exact BK114.out⟩, ⟨by repeat (first | (with_reducible first | exact HB.out | apply below_alloc | apply pw_below_drewN | apply below_drew1 | refine below_set ?_ GE107.out | refine below_set ?_ GE114.out) | exact HB.out)⟩⟩
                      case rest =>
                        clear HC40
                        try clear c1
                        try clear p1
                        try clear q1
                        try clear hx1
                        try clear qi1
                        try clear c2
                        try clear c2b0
                        try clear c2b1
                        try clear p2
                        try clear c3
                        try clear c4
                        try clear c5
                        try clear c6
                        try clear c6b0
                        try clear c6b1
                        try clear p6
                        try clear c7
                        try clear c7b0
                        try clear c8
                        try clear c8b0
                        try clear c9
                        try clear p9
                        try clear q9
                        try clear hx9
                        try clear c10
                        try clear p10
                        try clear q10
                        try clear hx10
                        try clear qi10
                        try clear c11
                        try clear c11b0
                        try clear p11
                        try clear q11
                        try clear hx11
                        try clear qi11
                        try clear c12
                        try clear c12b0
                        try clear c13
                        try clear c13b0
                        try clear c14
                        try clear c14b0
                        try clear c16
                        try clear c17
                        try clear c18
                        try clear c18b0
                        try clear c19
                        try clear c19b0
                        try clear c20
                        try clear c20b0
                        try clear c21
                        try clear c22
                        try clear c22b0
                        try clear c23
                        try clear c23b0
                        try clear c29
                        try clear c29b0
                        try clear c29b1
                        try clear c30
                        try clear c30b0
                        try clear c30b1
                        try clear c31
                        try clear c31b0
                        try clear c31b1
                        try clear c37
                        try clear c37b0
                        try clear c37b1
                        try clear c37b2
                        try clear c38
                        try clear c38b0
                        try clear c38b1
                        try clear c38b2
                        try clear c43
                        try clear c45
                        try clear c45b0
                        try clear c45b1
                        try clear c46
                        try clear c46b0
                        try clear c46b1
                        try clear c47
                        try clear c47b0
                        try clear c47b1
                        try clear c48
                        try clear c51
                        try clear c54
                        try clear hcz28_0
                        try clear hcz28_1
                        try clear hcz32_0
                        try clear hcz32_1
                        try clear hcz34_0
                        try clear hcz34_1
                        try clear hcz36_0
                        try clear hcz36_1
                        try clear hcz44_0
                        try clear hcz44_1
                        try clear hcz49_0
                        try clear hcz49_1
                        try clear hcz52_0
                        try clear hcz52_1
                        try clear hcz55_0
                        try clear hcz55_1
                        try clear hfz28_0
                        try clear hfz28_1
                        try clear hfz32_0
                        try clear hfz32_1
                        try clear hfz34_0
                        try clear hfz34_1
                        try clear hfz36_0
                        try clear hfz36_1
                        try clear hfz44_0
                        try clear hfz44_1
                        try clear hfz49_0
                        try clear hfz49_1
                        try clear hfz52_0
                        try clear hfz52_1
                        try clear hfz55_0
                        try clear hfz55_1
                        try clear hx108_0
                        try clear hx108_1
                        try clear hx108_2
                        try clear hx115_0
                        try clear hx115_1
                        try clear hx115_2
                        try clear p1
                        try clear p10
                        try clear p108
                        try clear p115
                        try clear p2
                        try clear p6
                        try clear p9
                        try clear q1
                        try clear q10
                        try clear q108
                        try clear q115
                        try clear q9
                        obtain ⟨kq, x13_39, rfl, HA, HJ39, BK107, BK114, HB⟩ := hcut
                        cases kq with
                        | zero => exact absurd HA.out (by simp [topiaristlaw01_LexNames.j5])
                        | succ kj39 =>
                          have H := HA.out
                          clear HA
                          simp only [topiaristlaw01_LexNames.j5] at H
                          replace H := Option.bind_eq_some_iff.mp H
                          obtain ⟨t116, A560, H⟩ := H
                          replace H : (if (t116 == x3_2) = true then ((lex_IsTerm.f a0).bind fun t117 => (if (t117 == x4_2) = true then (if (x10_24 == x3_2) = true then (if (x13_39 == x4_2) = true then ((topiaristlaw01_wakes.f).bind fun t118 => (some t118)) else (some false)) else (some false)) else (some false))) else (some false)) = some r := H
                          have A56 := Aside0.mk A560
                          clear A560
                          by_cases c57 : (t116 == x3_2) = true
                          · rw [if_pos c57] at H
                            have c57b0 : (t116 == x3_2) = true := c57
                            (try (have c57b1 : decide (t116 = x3_2) = true := by simpa using c57))
                            (try (have c57b2 : (t116 == x3_2) = true := by simpa using c57))
                            clear c57
                            replace H := Option.bind_eq_some_iff.mp H
                            obtain ⟨t117, A580, H⟩ := H
                            replace H : (if (t117 == x4_2) = true then (if (x10_24 == x3_2) = true then (if (x13_39 == x4_2) = true then ((topiaristlaw01_wakes.f).bind fun t118 => (some t118)) else (some false)) else (some false)) else (some false)) = some r := H
                            have A58 := Aside0.mk A580
                            clear A580
                            by_cases c59 : (t117 == x4_2) = true
                            · rw [if_pos c59] at H
                              have c59b0 : (t117 == x4_2) = true := c59
                              (try (have c59b1 : decide (t117 = x4_2) = true := by simpa using c59))
                              (try (have c59b2 : (t117 == x4_2) = true := by simpa using c59))
                              clear c59
                              by_cases c60 : (x10_24 == x3_2) = true
                              · rw [if_pos c60] at H
                                have c60b0 : (x10_24 == x3_2) = true := c60
                                (try (have c60b1 : decide (x10_24 = x3_2) = true := by simpa using c60))
                                (try (have c60b2 : (x10_24 == x3_2) = true := by simpa using c60))
                                clear c60
                                by_cases c61 : (x13_39 == x4_2) = true
                                · rw [if_pos c61] at H
                                  have c61b0 : (x13_39 == x4_2) = true := c61
                                  (try (have c61b1 : decide (x13_39 = x4_2) = true := by simpa using c61))
                                  (try (have c61b2 : (x13_39 == x4_2) = true := by simpa using c61))
                                  clear c61
                                  replace H := Option.bind_eq_some_iff.mp H
                                  obtain ⟨t118, A620, H⟩ := H
                                  replace H : (some t118) = some r := H
                                  have A62 := Aside0.mk A620
                                  clear A620
                                  obtain rfl := Option.some.inj H
                                  go_wp2_with (first | ((with_reducible refine gate_callee (f := 13) rfl ?_); refine goesL_ (some 135) rfl rfl Try.func13 (by kernel_rfl) rfl #[.string a0] rfl (by (try simp only [List.map_toArray, List.map_cons, List.map_nil]); first | done | rfl | (simp only [List.length_drop, List.length_take]; rfl)) ?_; (with_reducible refine (lex_IsName.calls a0 t116 _ A56.out).mono ?_); rintro e w' ⟨rfl, ⟨nd, rfl⟩⟩; refine ⟨_, rfl, ?_⟩) | (go_at_call 15; (with_reducible refine (lex_IsTerm.calls a0 t117 _ A58.out).mono ?_); rintro e w' ⟨rfl, ⟨nd, rfl⟩⟩) | (go_at_call 9; (with_reducible refine (topiaristlaw01_wakes.calls  t118 _ A62.out).mono ?_); rintro e w63 ⟨rfl, hb⟩; have n0_ := Aside0.mk (blk_below (g := gb107) (o := .cells #[.int .i64 t105, .int .i64 t106] 26 (0, 0)) (by (with_reducible repeat (first | refine blk_drewN ?_ _ | refine blk_drew ?_ | refine blk_alloc ?_ _)); exact BK107.out) hb); have n1_ := Aside0.mk (blk_below (g := gb114) (o := .cells #[.int .i64 t112, .int .i64 t113] 26 (0, 0)) (by (with_reducible repeat (first | refine blk_drewN ?_ _ | refine blk_drew ?_ | refine blk_alloc ?_ _)); exact BK114.out) hb); have n2_ := Aside0.mk (below_step (by repeat (first | (with_reducible first | exact HB.out | apply below_alloc | apply pw_below_drewN | apply below_drew1 | refine below_set ?_ GE107.out | refine below_set ?_ GE114.out) | exact HB.out)) hb); clear BK107; clear BK114; clear HB; have BK107 := n0_; have BK114 := n1_; have HB := n2_; clear n0_ n1_ n2_; (try clear hb); (try clear hb2); (try clear hk); (try clear hi)))
                                  go_ret
                                  exact ⟨by first | rfl | (simp [errW_none, errW_some] <;> rfl) | (simp [*, errW_none, errW_some] <;> rfl), by repeat (first | (with_reducible first | exact HB.out | apply below_alloc | apply pw_below_drewN | apply below_drew1 | refine below_set ?_ GE107.out | refine below_set ?_ GE114.out) | exact HB.out)⟩
                                · rw [if_neg c61] at H
                                  have c61b0 : (x13_39 == x4_2) = false := by simpa using c61
                                  (try (have c61b1 : decide (x13_39 = x4_2) = false := by simpa using c61))
                                  (try (have c61b2 : (x13_39 == x4_2) = false := by simpa using c61))
                                  (try (have c61b3 : ¬ (x13_39 = x4_2) := by simpa using c61))
                                  clear c61
                                  obtain rfl := Option.some.inj H
                                  go_wp2_with (first | ((with_reducible refine gate_callee (f := 13) rfl ?_); refine goesL_ (some 135) rfl rfl Try.func13 (by kernel_rfl) rfl #[.string a0] rfl (by (try simp only [List.map_toArray, List.map_cons, List.map_nil]); first | done | rfl | (simp only [List.length_drop, List.length_take]; rfl)) ?_; (with_reducible refine (lex_IsName.calls a0 t116 _ A56.out).mono ?_); rintro e w' ⟨rfl, ⟨nd, rfl⟩⟩; refine ⟨_, rfl, ?_⟩) | (go_at_call 15; (with_reducible refine (lex_IsTerm.calls a0 t117 _ A58.out).mono ?_); rintro e w' ⟨rfl, ⟨nd, rfl⟩⟩))
                                  go_ret
                                  exact ⟨by first | rfl | (simp [errW_none, errW_some] <;> rfl) | (simp [*, errW_none, errW_some] <;> rfl), by repeat (first | (with_reducible first | exact HB.out | apply below_alloc | apply pw_below_drewN | apply below_drew1 | refine below_set ?_ GE107.out | refine below_set ?_ GE114.out) | exact HB.out)⟩
                              · rw [if_neg c60] at H
                                have c60b0 : (x10_24 == x3_2) = false := by simpa using c60
                                (try (have c60b1 : decide (x10_24 = x3_2) = false := by simpa using c60))
                                (try (have c60b2 : (x10_24 == x3_2) = false := by simpa using c60))
                                (try (have c60b3 : ¬ (x10_24 = x3_2) := by simpa using c60))
                                clear c60
                                obtain rfl := Option.some.inj H
                                go_wp2_with (first | ((with_reducible refine gate_callee (f := 13) rfl ?_); refine goesL_ (some 135) rfl rfl Try.func13 (by kernel_rfl) rfl #[.string a0] rfl (by (try simp only [List.map_toArray, List.map_cons, List.map_nil]); first | done | rfl | (simp only [List.length_drop, List.length_take]; rfl)) ?_; (with_reducible refine (lex_IsName.calls a0 t116 _ A56.out).mono ?_); rintro e w' ⟨rfl, ⟨nd, rfl⟩⟩; refine ⟨_, rfl, ?_⟩) | (go_at_call 15; (with_reducible refine (lex_IsTerm.calls a0 t117 _ A58.out).mono ?_); rintro e w' ⟨rfl, ⟨nd, rfl⟩⟩))
                                go_ret
                                exact ⟨by first | rfl | (simp [errW_none, errW_some] <;> rfl) | (simp [*, errW_none, errW_some] <;> rfl), by repeat (first | (with_reducible first | exact HB.out | apply below_alloc | apply pw_below_drewN | apply below_drew1 | refine below_set ?_ GE107.out | refine below_set ?_ GE114.out) | exact HB.out)⟩
                            · rw [if_neg c59] at H
                              have c59b0 : (t117 == x4_2) = false := by simpa using c59
                              (try (have c59b1 : decide (t117 = x4_2) = false := by simpa using c59))
                              (try (have c59b2 : (t117 == x4_2) = false := by simpa using c59))
                              (try (have c59b3 : ¬ (t117 = x4_2) := by simpa using c59))
                              clear c59
                              obtain rfl := Option.some.inj H
                              go_wp2_with (first | ((with_reducible refine gate_callee (f := 13) rfl ?_); refine goesL_ (some 135) rfl rfl Try.func13 (by kernel_rfl) rfl #[.string a0] rfl (by (try simp only [List.map_toArray, List.map_cons, List.map_nil]); first | done | rfl | (simp only [List.length_drop, List.length_take]; rfl)) ?_; (with_reducible refine (lex_IsName.calls a0 t116 _ A56.out).mono ?_); rintro e w' ⟨rfl, ⟨nd, rfl⟩⟩; refine ⟨_, rfl, ?_⟩) | (go_at_call 15; (with_reducible refine (lex_IsTerm.calls a0 t117 _ A58.out).mono ?_); rintro e w' ⟨rfl, ⟨nd, rfl⟩⟩))
                              go_ret
                              exact ⟨by first | rfl | (simp [errW_none, errW_some] <;> rfl) | (simp [*, errW_none, errW_some] <;> rfl), by repeat (first | (with_reducible first | exact HB.out | apply below_alloc | apply pw_below_drewN | apply below_drew1 | refine below_set ?_ GE107.out | refine below_set ?_ GE114.out) | exact HB.out)⟩
                          · rw [if_neg c57] at H
                            have c57b0 : (t116 == x3_2) = false := by simpa using c57
                            (try (have c57b1 : decide (t116 = x3_2) = false := by simpa using c57))
                            (try (have c57b2 : (t116 == x3_2) = false := by simpa using c57))
                            (try (have c57b3 : ¬ (t116 = x3_2) := by simpa using c57))
                            clear c57
                            obtain rfl := Option.some.inj H
                            go_wp2_with (first | ((with_reducible refine gate_callee (f := 13) rfl ?_); refine goesL_ (some 135) rfl rfl Try.func13 (by kernel_rfl) rfl #[.string a0] rfl (by (try simp only [List.map_toArray, List.map_cons, List.map_nil]); first | done | rfl | (simp only [List.length_drop, List.length_take]; rfl)) ?_; (with_reducible refine (lex_IsName.calls a0 t116 _ A56.out).mono ?_); rintro e w' ⟨rfl, ⟨nd, rfl⟩⟩; refine ⟨_, rfl, ?_⟩))
                            go_ret
                            exact ⟨by first | rfl | (simp [errW_none, errW_some] <;> rfl) | (simp [*, errW_none, errW_some] <;> rfl), by repeat (first | (with_reducible first | exact HB.out | apply below_alloc | apply pw_below_drewN | apply below_drew1 | refine below_set ?_ GE107.out | refine below_set ?_ GE114.out) | exact HB.out)⟩
                    · rw [if_neg c38] at H
                      exact absurd H (by simp)
                  · rw [if_neg c37] at H
                    exact absurd H (by simp)

/-- THE ONE PURE STATEMENT of topiaristlaw01_LexNames: yours. -/
def topiaristlaw01_LexNames.Pure : Prop := ∀ (a0 : ByteArray), a0.size ≤ 140737488351232 → ∃ k, topiaristlaw01_LexNames.f k a0 = some true
theorem topiaristlaw01_LexNames.walk (P : topiaristlaw01_LexNames.Pure) (a0 : ByteArray) (w : World) (w0 : a0.size ≤ 140737488351232) :
    Calls Try.prog 6 #[.string a0] w fun e w' => e = .returned (.bool true) ∧ Below w.heap.size w w' := by
  obtain ⟨k, h⟩ := P a0 w0
  refine (topiaristlaw01_LexNames.calls k a0 true w h).mono ?_
  rintro e w' ⟨rfl, hd⟩
  exact ⟨rfl, hd⟩

end Go.Proofs.Ytfbncmcibfkfiaa.P
