-- Written by this session's own program wip/gen.py; Lean checks it.
import Derived.Test.YtfbncmcibfkfiaaPx0
import Derived.Test.YtfbncmcibfkfiaaPx9
import Derived.Test.YtfbncmcibfkfiaaPx10
import Derived.Test.YtfbncmcibfkfiaaPx1036
import Derived.Test.YtfbncmcibfkfiaaBase
namespace Go.Proofs.Ytfbncmcibfkfiaa.P
open Go.RowKit Go.Proofs.YtfbncmcibfkfiaaW.PrintWords Go.Proofs.YtfbncmcibfkfiaaW.PrintLast Go.Proofs.YtfbncmcibfkfiaaW.PrintMore
attribute [local go_sem] max2_int min2_int max_two min_two max_three min_three max_four min_four   -- for this text's walks alone
set_option linter.unusedVariables false
set_option linter.unusedSimpArgs false

attribute [local go_sem high] eqA36
-- import Derived.Test.YtfbncmcibfkfiaaBase
/-! ### topiaristlaw01_LexNotes: function 7 -/
mutual
def topiaristlaw01_LexNotes.j0 : Nat → ByteArray → Int → List Int → Bool → Option (Bool)
  | 0, _, _, _, _ => none
  | k + 1, x0, x1, x2, x24 => if x24 = true then ((topiaristlaw01_wakes.f).bind fun t101 => (some t101)) else ((lex_Tokens.f x0).bind fun bt102 => (if bt102.2.1 = 0 then (topiaristlaw01_LexNotes.j1 k x0 x1 x2 bt102.1 ((bt102.1.length : Int) == 0)) else (topiaristlaw01_LexNotes.j1 k x0 x1 x2 bt102.1 true)))
def topiaristlaw01_LexNotes.j1 : Nat → ByteArray → Int → List Int → List (S36) → Bool → Option (Bool)
  | 0, _, _, _, _, _ => none
  | k + 1, x0, x1, x2, x7, x38 => if x38 = true then ((topiaristlaw01_wakes.f).bind fun t108 => (some t108)) else (if (x7.length : Int) = 0 then (none) else (if 0 ≤ (Int.tmod (wrap64 (x1)) (x7.length : Int)) then (if (Int.tmod (wrap64 (x1)) (x7.length : Int)) < (x7.length : Int) then (if ((rd_T36 x7 (Int.tmod (wrap64 (x1)) (x7.length : Int))).f2) < 0 then (topiaristlaw01_LexNotes.j2 k x0 x2 x7 (Int.tmod (wrap64 (x1)) (x7.length : Int)) ((rd_T36 x7 (Int.tmod (wrap64 (x1)) (x7.length : Int))).f2) true) else (topiaristlaw01_LexNotes.j2 k x0 x2 x7 (Int.tmod (wrap64 (x1)) (x7.length : Int)) ((rd_T36 x7 (Int.tmod (wrap64 (x1)) (x7.length : Int))).f2) (decide (((rd_T36 x7 (Int.tmod (wrap64 (x1)) (x7.length : Int))).f2) > (x0.size : Int))))) else (none)) else (none)))
def topiaristlaw01_LexNotes.j2 : Nat → ByteArray → List Int → List (S36) → Int → Int → Bool → Option (Bool)
  | 0, _, _, _, _, _, _ => none
  | k + 1, x0, x2, x7, x9, x10, x57 => if x57 = true then (some false) else (topiaristlaw01_LexNotes.l0 k x0 x2 x7 x9 x10 (⟨#[]⟩ : ByteArray) 0)
def topiaristlaw01_LexNotes.l0 : Nat → ByteArray → List Int → List (S36) → Int → Int → ByteArray → Int → Option (Bool)
  | 0, _, _, _, _, _, _, _ => none
  | k + 1, x0, x2, x7, x9, x10, x11, x12 => if x12 < (x2.length : Int) then ((some (([(⟨#[32]⟩ : ByteArray), (⟨#[9]⟩ : ByteArray), (⟨#[10]⟩ : ByteArray), (⟨#[35, 32, 97, 32, 39, 98, 39, 32, 59, 10]⟩ : ByteArray)] : List ByteArray) : List ByteArray)).bind fun y110 => (if 0 ≤ x12 then (if 0 ≤ (Int.tmod (rd x2 x12) 4) then (if (Int.tmod (rd x2 x12) 4) < (y110.length : Int) then (if x11.size + (rdOf ByteArray.empty y110 (Int.tmod (rd x2 x12) 4)).size ≤ 9223372036854775807 then (topiaristlaw01_LexNotes.l0 k x0 x2 x7 x9 x10 (x11 ++ (rdOf ByteArray.empty y110 (Int.tmod (rd x2 x12) 4))) (wrap64 (x12 + 1))) else (none)) else (none)) else (none)) else (none))) else (if 0 ≤ x10 then (if x10 ≤ (x0.size : Int) then (if (x0.extract 0 (x10 : Int).toNat).size + x11.size ≤ 9223372036854775807 then (if ((x0.extract 0 (x10 : Int).toNat) ++ x11).size + (x0.extract (x10 : Int).toNat x0.size).size ≤ 9223372036854775807 then ((lex_Tokens.f (((x0.extract 0 (x10 : Int).toNat) ++ x11) ++ (x0.extract (x10 : Int).toNat x0.size))).bind fun bt115 => (if bt115.2.1 = 0 then (topiaristlaw01_LexNotes.j4 k x7 x9 x11 bt115.1 ((bt115.1.length : Int) != (x7.length : Int))) else (topiaristlaw01_LexNotes.j4 k x7 x9 x11 bt115.1 true))) else (none)) else (none)) else (none)) else (none))
def topiaristlaw01_LexNotes.j4 : Nat → List (S36) → Int → ByteArray → List (S36) → Bool → Option (Bool)
  | 0, _, _, _, _, _ => none
  | k + 1, x7, x9, x11, x13, x96 => if x96 = true then (some false) else (topiaristlaw01_LexNotes.l1 k x7 x9 x11 x13 0)
def topiaristlaw01_LexNotes.l1 : Nat → List (S36) → Int → ByteArray → List (S36) → Int → Option (Bool)
  | 0, _, _, _, _, _ => none
  | k + 1, x7, x9, x11, x13, x15 => if x15 < (x7.length : Int) then (if 0 ≤ x15 then (if x15 ≥ x9 then (if x15 < (x13.length : Int) then (if (!(((rd_T36 x13 x15).f0) == ((rd_T36 x7 x15).f0)) || (!((((rd_T36 x13 x15).f1).toList) == (((rd_T36 x7 x15).f1).toList)) || (!(((rd_T36 x13 x15).f2) == (wrap64 (((rd_T36 x7 x15).f2) + (x11.size : Int))))))) = true then (some false) else (topiaristlaw01_LexNotes.l1 k x7 x9 x11 x13 (wrap64 (x15 + 1)))) else (none)) else (if x15 < (x13.length : Int) then (if (!(((rd_T36 x13 x15).f0) == ((rd_T36 x7 x15).f0)) || (!((((rd_T36 x13 x15).f1).toList) == (((rd_T36 x7 x15).f1).toList)) || (!(((rd_T36 x13 x15).f2) == ((rd_T36 x7 x15).f2))))) = true then (some false) else (topiaristlaw01_LexNotes.l1 k x7 x9 x11 x13 (wrap64 (x15 + 1)))) else (none))) else (none)) else ((topiaristlaw01_wakes.f).bind fun t121 => (some t121))
end
def topiaristlaw01_LexNotes.f (k : Nat) (a0 : ByteArray) (a1 : Int) (l2 : List Int) : Option (Bool) := if (a0.size : Int) > 1000 then (topiaristlaw01_LexNotes.j0 k a0 a1 l2 true) else (topiaristlaw01_LexNotes.j0 k a0 a1 l2 (decide ((l2.length : Int) > 100)))
theorem topiaristlaw01_LexNotes.mono_l : ∀ k, (∀ y0 y1 y2 y3, LeO (topiaristlaw01_LexNotes.j0 k y0 y1 y2 y3) (topiaristlaw01_LexNotes.j0 (k + 1) y0 y1 y2 y3)) ∧ (∀ y0 y1 y2 y3 y4, LeO (topiaristlaw01_LexNotes.j1 k y0 y1 y2 y3 y4) (topiaristlaw01_LexNotes.j1 (k + 1) y0 y1 y2 y3 y4)) ∧ (∀ y0 y1 y2 y3 y4 y5, LeO (topiaristlaw01_LexNotes.j2 k y0 y1 y2 y3 y4 y5) (topiaristlaw01_LexNotes.j2 (k + 1) y0 y1 y2 y3 y4 y5)) ∧ (∀ y0 y1 y2 y3 y4 y5 y6, LeO (topiaristlaw01_LexNotes.l0 k y0 y1 y2 y3 y4 y5 y6) (topiaristlaw01_LexNotes.l0 (k + 1) y0 y1 y2 y3 y4 y5 y6)) ∧ (∀ y0 y1 y2 y3 y4, LeO (topiaristlaw01_LexNotes.j4 k y0 y1 y2 y3 y4) (topiaristlaw01_LexNotes.j4 (k + 1) y0 y1 y2 y3 y4)) ∧ (∀ y0 y1 y2 y3 y4, LeO (topiaristlaw01_LexNotes.l1 k y0 y1 y2 y3 y4) (topiaristlaw01_LexNotes.l1 (k + 1) y0 y1 y2 y3 y4))
  | 0 => ⟨fun _ _ _ _ r h => by simp [topiaristlaw01_LexNotes.j0] at h, fun _ _ _ _ _ r h => by simp [topiaristlaw01_LexNotes.j1] at h, fun _ _ _ _ _ _ r h => by simp [topiaristlaw01_LexNotes.j2] at h, fun _ _ _ _ _ _ _ r h => by simp [topiaristlaw01_LexNotes.l0] at h, fun _ _ _ _ _ r h => by simp [topiaristlaw01_LexNotes.j4] at h, fun _ _ _ _ _ r h => by simp [topiaristlaw01_LexNotes.l1] at h⟩
  | k + 1 => by
    obtain ⟨ih0, ih1, ih2, ih3, ih4, ih5⟩ := topiaristlaw01_LexNotes.mono_l k
    refine ⟨?_, ?_, ?_, ?_, ?_, ?_⟩
    · intro y0 y1 y2 y3
      unfold topiaristlaw01_LexNotes.j0
      repeat' first
      | (with_reducible exact ih0 _ _ _ _)
      | (with_reducible exact ih1 _ _ _ _ _)
      | (with_reducible exact ih2 _ _ _ _ _ _)
      | (with_reducible exact ih3 _ _ _ _ _ _ _)
      | (with_reducible exact ih4 _ _ _ _ _)
      | (with_reducible exact ih5 _ _ _ _ _)
      | (with_reducible exact LeO.refl _)
      | (with_reducible exact LeO.none _)
      | (with_reducible refine LeO.ite ?_ ?_)
      | (with_reducible refine LeO.bind ?_ (fun _ => ?_))
      | exact ih0 _ _ _ _
      | exact ih1 _ _ _ _ _
      | exact ih2 _ _ _ _ _ _
      | exact ih3 _ _ _ _ _ _ _
      | exact ih4 _ _ _ _ _
      | exact ih5 _ _ _ _ _
      | exact LeO.none _
      | refine LeO.ite ?_ ?_
      | refine LeO.bind ?_ (fun _ => ?_)
    · intro y0 y1 y2 y3 y4
      unfold topiaristlaw01_LexNotes.j1
      repeat' first
      | (with_reducible exact ih0 _ _ _ _)
      | (with_reducible exact ih1 _ _ _ _ _)
      | (with_reducible exact ih2 _ _ _ _ _ _)
      | (with_reducible exact ih3 _ _ _ _ _ _ _)
      | (with_reducible exact ih4 _ _ _ _ _)
      | (with_reducible exact ih5 _ _ _ _ _)
      | (with_reducible exact LeO.refl _)
      | (with_reducible exact LeO.none _)
      | (with_reducible refine LeO.ite ?_ ?_)
      | (with_reducible refine LeO.bind ?_ (fun _ => ?_))
      | exact ih0 _ _ _ _
      | exact ih1 _ _ _ _ _
      | exact ih2 _ _ _ _ _ _
      | exact ih3 _ _ _ _ _ _ _
      | exact ih4 _ _ _ _ _
      | exact ih5 _ _ _ _ _
      | exact LeO.none _
      | refine LeO.ite ?_ ?_
      | refine LeO.bind ?_ (fun _ => ?_)
    · intro y0 y1 y2 y3 y4 y5
      unfold topiaristlaw01_LexNotes.j2
      repeat' first
      | (with_reducible exact ih0 _ _ _ _)
      | (with_reducible exact ih1 _ _ _ _ _)
      | (with_reducible exact ih2 _ _ _ _ _ _)
      | (with_reducible exact ih3 _ _ _ _ _ _ _)
      | (with_reducible exact ih4 _ _ _ _ _)
      | (with_reducible exact ih5 _ _ _ _ _)
      | (with_reducible exact LeO.refl _)
      | (with_reducible exact LeO.none _)
      | (with_reducible refine LeO.ite ?_ ?_)
      | (with_reducible refine LeO.bind ?_ (fun _ => ?_))
      | exact ih0 _ _ _ _
      | exact ih1 _ _ _ _ _
      | exact ih2 _ _ _ _ _ _
      | exact ih3 _ _ _ _ _ _ _
      | exact ih4 _ _ _ _ _
      | exact ih5 _ _ _ _ _
      | exact LeO.none _
      | refine LeO.ite ?_ ?_
      | refine LeO.bind ?_ (fun _ => ?_)
    · intro y0 y1 y2 y3 y4 y5 y6
      unfold topiaristlaw01_LexNotes.l0
      repeat' first
      | (with_reducible exact ih0 _ _ _ _)
      | (with_reducible exact ih1 _ _ _ _ _)
      | (with_reducible exact ih2 _ _ _ _ _ _)
      | (with_reducible exact ih3 _ _ _ _ _ _ _)
      | (with_reducible exact ih4 _ _ _ _ _)
      | (with_reducible exact ih5 _ _ _ _ _)
      | (with_reducible exact LeO.refl _)
      | (with_reducible exact LeO.none _)
      | (with_reducible refine LeO.ite ?_ ?_)
      | (with_reducible refine LeO.bind ?_ (fun _ => ?_))
      | exact ih0 _ _ _ _
      | exact ih1 _ _ _ _ _
      | exact ih2 _ _ _ _ _ _
      | exact ih3 _ _ _ _ _ _ _
      | exact ih4 _ _ _ _ _
      | exact ih5 _ _ _ _ _
      | exact LeO.none _
      | refine LeO.ite ?_ ?_
      | refine LeO.bind ?_ (fun _ => ?_)
    · intro y0 y1 y2 y3 y4
      unfold topiaristlaw01_LexNotes.j4
      repeat' first
      | (with_reducible exact ih0 _ _ _ _)
      | (with_reducible exact ih1 _ _ _ _ _)
      | (with_reducible exact ih2 _ _ _ _ _ _)
      | (with_reducible exact ih3 _ _ _ _ _ _ _)
      | (with_reducible exact ih4 _ _ _ _ _)
      | (with_reducible exact ih5 _ _ _ _ _)
      | (with_reducible exact LeO.refl _)
      | (with_reducible exact LeO.none _)
      | (with_reducible refine LeO.ite ?_ ?_)
      | (with_reducible refine LeO.bind ?_ (fun _ => ?_))
      | exact ih0 _ _ _ _
      | exact ih1 _ _ _ _ _
      | exact ih2 _ _ _ _ _ _
      | exact ih3 _ _ _ _ _ _ _
      | exact ih4 _ _ _ _ _
      | exact ih5 _ _ _ _ _
      | exact LeO.none _
      | refine LeO.ite ?_ ?_
      | refine LeO.bind ?_ (fun _ => ?_)
    · intro y0 y1 y2 y3 y4
      unfold topiaristlaw01_LexNotes.l1
      repeat' first
      | (with_reducible exact ih0 _ _ _ _)
      | (with_reducible exact ih1 _ _ _ _ _)
      | (with_reducible exact ih2 _ _ _ _ _ _)
      | (with_reducible exact ih3 _ _ _ _ _ _ _)
      | (with_reducible exact ih4 _ _ _ _ _)
      | (with_reducible exact ih5 _ _ _ _ _)
      | (with_reducible exact LeO.refl _)
      | (with_reducible exact LeO.none _)
      | (with_reducible refine LeO.ite ?_ ?_)
      | (with_reducible refine LeO.bind ?_ (fun _ => ?_))
      | exact ih0 _ _ _ _
      | exact ih1 _ _ _ _ _
      | exact ih2 _ _ _ _ _ _
      | exact ih3 _ _ _ _ _ _ _
      | exact ih4 _ _ _ _ _
      | exact ih5 _ _ _ _ _
      | exact LeO.none _
      | refine LeO.ite ?_ ?_
      | refine LeO.bind ?_ (fun _ => ?_)
theorem topiaristlaw01_LexNotes.mono : ∀ a0 a1 a2 k, LeO (topiaristlaw01_LexNotes.f k a0 a1 a2) (topiaristlaw01_LexNotes.f (k + 1) a0 a1 a2) := by
  intro a0 a1 a2 k
  obtain ⟨ih0, ih1, ih2, ih3, ih4, ih5⟩ := topiaristlaw01_LexNotes.mono_l k
  unfold topiaristlaw01_LexNotes.f
  repeat' first
      | (with_reducible exact ih0 _ _ _ _)
      | (with_reducible exact ih1 _ _ _ _ _)
      | (with_reducible exact ih2 _ _ _ _ _ _)
      | (with_reducible exact ih3 _ _ _ _ _ _ _)
      | (with_reducible exact ih4 _ _ _ _ _)
      | (with_reducible exact ih5 _ _ _ _ _)
      | (with_reducible exact LeO.refl _)
      | (with_reducible exact LeO.none _)
      | (with_reducible refine LeO.ite ?_ ?_)
      | (with_reducible refine LeO.bind ?_ (fun _ => ?_))
      | exact ih0 _ _ _ _
      | exact ih1 _ _ _ _ _
      | exact ih2 _ _ _ _ _ _
      | exact ih3 _ _ _ _ _ _ _
      | exact ih4 _ _ _ _ _
      | exact ih5 _ _ _ _ _
      | exact LeO.none _
      | refine LeO.ite ?_ ?_
      | refine LeO.bind ?_ (fun _ => ?_)
def topiaristlaw01_LexNotes.T15 : Bool × List (List Nat × List Nat) := (true, [([], []), ([], []), ([0, 1], [0, 1]), ([], []), ([2, 3], [2, 3]), ([], []), ([], []), ([5, 6], [5, 6]), ([4, 7], [4, 7]), ([8], [8]), ([9], [9]), ([10], [10]), ([10], [10]), ([], []), ([11, 9, 0, 1, 2, 3, 4, 5, 6, 7, 8, 9, 10, 11, 13], [11]), ([13, 12, 14, 0, 1, 2, 3, 4, 5, 6, 7, 8, 9, 10, 11, 12, 13, 14], [12, 13])])
def topiaristlaw01_LexNotes.B15 : List Nat := [0, 0, 3, 0, 15, 0, 0, 96, 255, 511, 1023, 2047, 2047, 0, 12287, 32767]
theorem topiaristlaw01_LexNotes.tab15 : rtab .any (opsOf Try.f7 15) = topiaristlaw01_LexNotes.T15 := by kernel_rfl
theorem topiaristlaw01_LexNotes.bits15 : waitsOk topiaristlaw01_LexNotes.T15.2 topiaristlaw01_LexNotes.B15 = true := by kernel_rfl
set_option maxHeartbeats 8000000 in
set_option maxRecDepth 100000 in
theorem topiaristlaw01_LexNotes.calls (k : Nat) (a0 : ByteArray) (a1 : Int) (A2 : Option Addr) (c2 : Nat) (l2 : List Int) (r : Bool) (w : World) (hr2 : Kd.C (Kd.int .u8) w A2 l2.length l2) (hc2 : l2.length ≤ c2) (h : topiaristlaw01_LexNotes.f k a0 a1 l2 = some r) :
    Calls Try.prog 7 #[.string a0, .int .u8 a1, .slice A2 l2.length c2] w fun e w' => e = .returned (.bool r) ∧ Below w.heap.size w w' := by
  have hu26 := Try.underlying26
  have hu36 := Try.underlying36
  have HR2 := Aside0.mk hr2
  have HC2 := Aside0.mk hc2
  clear hr2 hc2
  have HB := Aside0.mk (Below.refl w.heap.size w)
  have H : (if (a0.size : Int) > 1000 then (topiaristlaw01_LexNotes.j0 k a0 a1 l2 true) else (topiaristlaw01_LexNotes.j0 k a0 a1 l2 (decide ((l2.length : Int) > 100)))) = some r := h
  clear h
  have HC4 := Aside0.mk H
  clear H
  go_enter Try.func7, Try.ntmps7
  go_upto_region 1 with (fail)
  go_cut [24] (fun v24 wc => ∃ (kq : Nat) (x24_3 : Bool), v24 = .bool x24_3 ∧ Aside0 (topiaristlaw01_LexNotes.j0 kq a0 a1 l2 x24_3 = some r) ∧ Aside0 (kq ≤ k) ∧ Aside0 (Below w.heap.size w wc))
  case first =>
    have H := HC4.out
    clear HC4
    by_cases c5 : (a0.size : Int) > 1000
    · rw [if_pos c5] at H
      have c5b0 : decide (1000 < (a0.size : Int)) = true := decide_eq_true c5
      have c5b1 : decide (1000 < a0.size) = true := decide_eq_true (by omega)
      clear c5
      (first | rw [c5b0] | (simp only [i64_w, i32_w]; rw [c5b0]) | skip)
      have H' := Aside0.mk H
      clear H
      go_wp2
      go_meet
      case rel => exact ⟨_, (true), (by first | rfl | (simp; done) | (simp [*]; done)), H', ⟨by first | omega | exact Nat.le_refl _⟩, ⟨by repeat (first | (with_reducible first | exact HB.out | apply below_alloc | apply pw_below_drewN | apply below_drew1) | exact HB.out)⟩⟩
    · rw [if_neg c5] at H
      have c5b0 : decide (1000 < (a0.size : Int)) = false := decide_eq_false c5
      have c5b1 : decide (1000 < a0.size) = false := decide_eq_false (by omega)
      clear c5
      (first | rw [c5b0] | (simp only [i64_w, i32_w]; rw [c5b0]) | skip)
      have H' := Aside0.mk H
      clear H
      go_wp2
      go_meet
      case rel => exact ⟨_, (decide ((l2.length : Int) > 100)), (by first | rfl | (simp; done) | (simp [*]; done)), H', ⟨by first | omega | exact Nat.le_refl _⟩, ⟨by repeat (first | (with_reducible first | exact HB.out | apply below_alloc | apply pw_below_drewN | apply below_drew1) | exact HB.out)⟩⟩
  case rest =>
    clear HC4
    try clear c2
    try clear p2
    try clear c5
    try clear c5b0
    try clear c5b1
    obtain ⟨kq, x24_3, rfl, HA, HJ3, HB⟩ := hcut
    cases kq with
    | zero => exact absurd HA.out (by simp [topiaristlaw01_LexNotes.j0])
    | succ kj3 =>
      have H := HA.out
      clear HA
      simp only [topiaristlaw01_LexNotes.j0] at H
      by_cases c6 : x24_3 = true
      · subst c6
        have H1 : ((topiaristlaw01_wakes.f).bind fun t101 => (some t101)) = some r := by rw [if_pos rfl] at H; exact H
        clear H
        have H := H1
        clear H1
        replace H := Option.bind_eq_some_iff.mp H
        obtain ⟨t101, A70, H⟩ := H
        replace H : (some t101) = some r := H
        have A7 := Aside0.mk A70
        clear A70
        obtain rfl := Option.some.inj H
        go_wp2_with (first | ((with_reducible refine gate_callee (f := 9) rfl ?_); refine goesL_ (some 25) rfl rfl Try.func9 (by kernel_rfl) rfl #[] rfl (by (try simp only [List.map_toArray, List.map_cons, List.map_nil]); first | done | rfl | (simp only [List.length_drop, List.length_take]; rfl)) ?_; (with_reducible refine (topiaristlaw01_wakes.calls  t101 _ A7.out).mono ?_); rintro e w8 ⟨rfl, hb⟩; refine ⟨_, rfl, ?_⟩; have n0_ := Aside0.mk (below_step (by repeat (first | (with_reducible first | exact HB.out | apply below_alloc | apply pw_below_drewN | apply below_drew1) | exact HB.out)) hb); clear HB; have HB := n0_; clear n0_; (try clear hb); (try clear hb2); (try clear hk); (try clear hi)))
        go_ret
        exact ⟨by first | rfl | (simp [errW_none, errW_some] <;> rfl) | (simp [*, errW_none, errW_some] <;> rfl), by repeat (first | (with_reducible first | exact HB.out | apply below_alloc | apply pw_below_drewN | apply below_drew1) | exact HB.out)⟩
      · replace c6 := Bool.eq_false_iff.mpr c6
        subst c6
        have H1 : ((lex_Tokens.f a0).bind fun bt102 => (if bt102.2.1 = 0 then (topiaristlaw01_LexNotes.j1 kj3 a0 a1 l2 bt102.1 ((bt102.1.length : Int) == 0)) else (topiaristlaw01_LexNotes.j1 kj3 a0 a1 l2 bt102.1 true))) = some r := by rw [if_neg (show ¬ (false = true) by decide)] at H; exact H
        clear H
        have H := H1
        clear H1
        replace H := Option.bind_eq_some_iff.mp H
        obtain ⟨⟨t102, t105, t106⟩, A90, H⟩ := H
        replace H : (if t105 = 0 then (topiaristlaw01_LexNotes.j1 kj3 a0 a1 l2 t102 ((t102.length : Int) == 0)) else (topiaristlaw01_LexNotes.j1 kj3 a0 a1 l2 t102 true)) = some r := H
        have A9 := Aside0.mk A90
        clear A90
        have HC10 := Aside0.mk H
        clear H
        go_upto_region 4 with (first | ((with_reducible refine gate_callee (f := 10) rfl ?_); refine goesL_ (some 28) rfl rfl Try.func10 (by kernel_rfl) rfl #[.string a0] rfl (by (try simp only [List.map_toArray, List.map_cons, List.map_nil]); first | done | rfl | (simp only [List.length_drop, List.length_take]; rfl)) ?_; (with_reducible refine (lex_Tokens.calls a0 t102 t105 t106 _ A9.out).mono ?_); rintro e w11 ⟨v103, rfl, ho0, hb⟩; refine ⟨_, rfl, ?_⟩; have n0_ := Aside0.mk (Kd.R_lower ho0 (below_size (by repeat (first | (with_reducible first | exact HB.out | apply below_alloc | apply pw_below_drewN | apply below_drew1) | exact HB.out)))); have n1_ := Aside0.mk (below_step (by repeat (first | (with_reducible first | exact HB.out | apply below_alloc | apply pw_below_drewN | apply below_drew1) | exact HB.out)) hb); clear HB; have HO104 := n0_; have HB := n1_; clear n0_ n1_; (try clear hb); (try clear hb2); (try clear hk); (try clear hi); (try clear ho0)) | ((with_reducible refine gate_dst (N := 8) rfl ?_); (try (refine gate_guard (by rfl) ?_; dsimp only)); refine box_event ?hg (N := 8) ?hd (cs := #[.int .i64 0, .int .i64 0]) (t := 26) ?hr ?_; (case hd => rfl); (case hg => rfl); (case hr => first | (go_simp; done) | (go_simp; rfl)); intro gb107 hg w12 hbox hb; have n0_ := Aside0.mk (Kd.R_below (by (with_reducible repeat (first | apply Kd.R_alloc | apply Kd.R_drewN | apply Kd.R_drew)); exact HO104.out) hb); have n1_ := Aside0.mk (below_step (by repeat (first | (with_reducible first | exact HB.out | apply below_alloc | apply pw_below_drewN | apply below_drew1) | exact HB.out)) hb); have n2_ := Aside0.mk (hbox); have n3_ := Aside0.mk ((by rw [hg]; exact (below_size (by repeat (first | (with_reducible first | exact HB.out | apply below_alloc | apply pw_below_drewN | apply below_drew1) | exact HB.out))) : w.heap.size ≤ gb107)); have n4_ := Aside0.mk ((by rw [hg]; exact (below_size (by repeat (first | (with_reducible first | exact HB.out | apply below_alloc | apply pw_below_drewN | apply below_drew1) | exact HB.out))) : w.heap.size ≤ gb107)); clear HO104; clear HB; have HO104 := n0_; have HB := n1_; have BK107 := n2_; have GW107 := n3_; have GE107 := n4_; clear n0_ n1_ n2_ n3_ n4_; clear hb hbox hg; have hcz13_0 : w12.cell? ⟨gb107, 0, none⟩ = some (.int .i64 0) := (blk_cell BK107.out 0).trans rfl; have hcz13_1 : w12.cell? ⟨gb107, 1, none⟩ = some (.int .i64 0) := (blk_cell BK107.out 1).trans rfl; have hfz13_0 := blk_frozen BK107.out 0; have hfz13_1 := blk_frozen BK107.out 1))
        (try simp only [Act.put, List.setIfInBounds_toArray, List.set_cons_zero, List.set_cons_succ])
        go_cut [38] (fun v38 wc => ∃ (kq : Nat) (x38_9 : Bool), v38 = .bool x38_9 ∧ Aside0 (topiaristlaw01_LexNotes.j1 kq a0 a1 l2 t102 x38_9 = some r) ∧ Aside0 (kq ≤ kj3) ∧ Aside0 (Kd.R k36 36 wc w.heap.size (fun _ => True) v103 t102) ∧ Aside0 (wc.heap[gb107]? = some (.cells #[.int .i64 t105, .int .i64 t106] 26 (0, 0))) ∧ Aside0 (Below w.heap.size w wc))
        case first =>
          have H := HC10.out
          clear HC10
          by_cases c14 : t105 = 0
          · rw [if_pos c14] at H
            have c14b0 : (t105 == 0) = true := beq_iff_eq.mpr c14
            have c14b1 : (t105 != 0) = false := bne_eq_false_iff_eq.mpr c14
            clear c14
            (first | rw [c14b0] | (simp only [i64_w, i32_w]; rw [c14b0]) | skip)
            have H' := Aside0.mk H
            clear H
            have hcz15_0 : w12.cell? ⟨gb107, 0, none⟩ = some (.int .i64 0) := (blk_cell BK107.out 0).trans rfl
            have hcz15_1 : w12.cell? ⟨gb107, 1, none⟩ = some (.int .i64 0) := (blk_cell BK107.out 1).trans rfl
            have hfz15_0 := blk_frozen BK107.out 0
            have hfz15_1 := blk_frozen BK107.out 1
            obtain ⟨Ao16, co16, eo16⟩ := Kd.R_slice HO104.out
            subst eo16
            go_wp2
            go_meet
            case rel => exact ⟨_, (((t102.length : Int) == 0)), (by first | rfl | (simp; done) | (simp [*]; done)), H', ⟨by have := HJ3.out; first | omega | exact Nat.le_refl _⟩, ⟨by (with_reducible repeat (first | apply Kd.R_alloc | apply Kd.R_drewN | apply Kd.R_drew)); exact Kd.R_mono (Kd.R_far (p := ⟨gb107, 1, none⟩) (Kd.R_far (p := ⟨gb107, 0, none⟩) (Kd.R_types HO104.out BK107.out (by decide)) (fun _ hk => hk.2) (.int .i64 t105)) (fun _ hk => hk.2) (.int .i64 t106)) (fun _ hk => trivial)⟩, ⟨by (with_reducible repeat (first | refine blk_drewN ?_ _ | refine blk_drew ?_ | refine blk_alloc ?_ _)); refine blk_put (cs := #[.int .i64 t105, .int .i64 0]) ?_ 1 _ rfl; (with_reducible repeat (first | refine blk_drewN ?_ _ | refine blk_drew ?_ | refine blk_alloc ?_ _)); refine blk_put (cs := #[.int .i64 0, .int .i64 0]) ?_ 0 _ rfl; (with_reducible repeat (first | refine blk_drewN ?_ _ | refine blk_drew ?_ | refine blk_alloc ?_ _)); exact BK107.out⟩, ⟨by repeat (first | (with_reducible first | exact HB.out | apply below_alloc | apply pw_below_drewN | apply below_drew1 | refine below_set ?_ GE107.out) | exact HB.out)⟩⟩
          · rw [if_neg c14] at H
            have c14b0 : (t105 == 0) = false := beq_eq_false_iff_ne.mpr c14
            have c14b1 : (t105 != 0) = true := bne_iff_ne.mpr c14
            (first | rw [c14b0] | (simp only [i64_w, i32_w]; rw [c14b0]) | skip)
            have H' := Aside0.mk H
            clear H
            have hcz17_0 : w12.cell? ⟨gb107, 0, none⟩ = some (.int .i64 0) := (blk_cell BK107.out 0).trans rfl
            have hcz17_1 : w12.cell? ⟨gb107, 1, none⟩ = some (.int .i64 0) := (blk_cell BK107.out 1).trans rfl
            have hfz17_0 := blk_frozen BK107.out 0
            have hfz17_1 := blk_frozen BK107.out 1
            go_wp2
            go_meet
            case rel => exact ⟨_, (true), (by first | rfl | (simp; done) | (simp [*]; done)), H', ⟨by have := HJ3.out; first | omega | exact Nat.le_refl _⟩, ⟨by (with_reducible repeat (first | apply Kd.R_alloc | apply Kd.R_drewN | apply Kd.R_drew)); exact Kd.R_mono (Kd.R_far (p := ⟨gb107, 1, none⟩) (Kd.R_far (p := ⟨gb107, 0, none⟩) (Kd.R_types HO104.out BK107.out (by decide)) (fun _ hk => hk.2) (.int .i64 t105)) (fun _ hk => hk.2) (.int .i64 t106)) (fun _ hk => trivial)⟩, ⟨by (with_reducible repeat (first | refine blk_drewN ?_ _ | refine blk_drew ?_ | refine blk_alloc ?_ _)); refine blk_put (cs := #[.int .i64 t105, .int .i64 0]) ?_ 1 _ rfl; (with_reducible repeat (first | refine blk_drewN ?_ _ | refine blk_drew ?_ | refine blk_alloc ?_ _)); refine blk_put (cs := #[.int .i64 0, .int .i64 0]) ?_ 0 _ rfl; (with_reducible repeat (first | refine blk_drewN ?_ _ | refine blk_drew ?_ | refine blk_alloc ?_ _)); exact BK107.out⟩, ⟨by repeat (first | (with_reducible first | exact HB.out | apply below_alloc | apply pw_below_drewN | apply below_drew1 | refine below_set ?_ GE107.out) | exact HB.out)⟩⟩
        case rest =>
          clear HC10
          try clear c1
          try clear c2
          try clear p2
          try clear c5
          try clear c5b0
          try clear c5b1
          try clear c6
          try clear c7
          try clear c9
          try clear c10
          try clear c14
          try clear c14b0
          try clear c14b1
          try clear hcz13_0
          try clear hcz13_1
          try clear hcz15_0
          try clear hcz15_1
          try clear hcz17_0
          try clear hcz17_1
          try clear hfz13_0
          try clear hfz13_1
          try clear hfz15_0
          try clear hfz15_1
          try clear hfz17_0
          try clear hfz17_1
          try clear p2
          obtain ⟨kq, x38_9, rfl, HA, HJ9, HO_7, BK107, HB⟩ := hcut
          cases kq with
          | zero => exact absurd HA.out (by simp [topiaristlaw01_LexNotes.j1])
          | succ kj9 =>
            have H := HA.out
            clear HA
            simp only [topiaristlaw01_LexNotes.j1] at H
            by_cases c18 : x38_9 = true
            · subst c18
              have H1 : ((topiaristlaw01_wakes.f).bind fun t108 => (some t108)) = some r := by rw [if_pos rfl] at H; exact H
              clear H
              have H := H1
              clear H1
              replace H := Option.bind_eq_some_iff.mp H
              obtain ⟨t108, A190, H⟩ := H
              replace H : (some t108) = some r := H
              have A19 := Aside0.mk A190
              clear A190
              obtain rfl := Option.some.inj H
              go_wp2_with (first | ((with_reducible refine gate_callee (f := 9) rfl ?_); refine goesL_ (some 39) rfl rfl Try.func9 (by kernel_rfl) rfl #[] rfl (by (try simp only [List.map_toArray, List.map_cons, List.map_nil]); first | done | rfl | (simp only [List.length_drop, List.length_take]; rfl)) ?_; (with_reducible refine (topiaristlaw01_wakes.calls  t108 _ A19.out).mono ?_); rintro e w20 ⟨rfl, hb⟩; refine ⟨_, rfl, ?_⟩; have n0_ := Aside0.mk (Kd.R_below (by (with_reducible repeat (first | apply Kd.R_alloc | apply Kd.R_drewN | apply Kd.R_drew)); exact HO_7.out) hb); have n1_ := Aside0.mk (blk_below (g := gb107) (o := .cells #[.int .i64 t105, .int .i64 t106] 26 (0, 0)) (by (with_reducible repeat (first | refine blk_drewN ?_ _ | refine blk_drew ?_ | refine blk_alloc ?_ _)); exact BK107.out) hb); have n2_ := Aside0.mk (below_step (by repeat (first | (with_reducible first | exact HB.out | apply below_alloc | apply pw_below_drewN | apply below_drew1 | refine below_set ?_ GE107.out) | exact HB.out)) hb); clear HO_7; clear BK107; clear HB; have HO_7 := n0_; have BK107 := n1_; have HB := n2_; clear n0_ n1_ n2_; (try clear hb); (try clear hb2); (try clear hk); (try clear hi)))
              go_ret
              exact ⟨by first | rfl | (simp [errW_none, errW_some] <;> rfl) | (simp [*, errW_none, errW_some] <;> rfl), by repeat (first | (with_reducible first | exact HB.out | apply below_alloc | apply pw_below_drewN | apply below_drew1 | refine below_set ?_ GE107.out) | exact HB.out)⟩
            · replace c18 := Bool.eq_false_iff.mpr c18
              subst c18
              have H1 : (if (t102.length : Int) = 0 then (none) else (if 0 ≤ (Int.tmod (wrap64 (a1)) (t102.length : Int)) then (if (Int.tmod (wrap64 (a1)) (t102.length : Int)) < (t102.length : Int) then (if ((rd_T36 t102 (Int.tmod (wrap64 (a1)) (t102.length : Int))).f2) < 0 then (topiaristlaw01_LexNotes.j2 kj9 a0 l2 t102 (Int.tmod (wrap64 (a1)) (t102.length : Int)) ((rd_T36 t102 (Int.tmod (wrap64 (a1)) (t102.length : Int))).f2) true) else (topiaristlaw01_LexNotes.j2 kj9 a0 l2 t102 (Int.tmod (wrap64 (a1)) (t102.length : Int)) ((rd_T36 t102 (Int.tmod (wrap64 (a1)) (t102.length : Int))).f2) (decide (((rd_T36 t102 (Int.tmod (wrap64 (a1)) (t102.length : Int))).f2) > (a0.size : Int))))) else (none)) else (none))) = some r := by rw [if_neg (show ¬ (false = true) by decide)] at H; exact H
              clear H
              have H := H1
              clear H1
              by_cases c21 : (t102.length : Int) = 0
              · rw [if_pos c21] at H
                exact absurd H (by simp)
              · rw [if_neg c21] at H
                have c21b0 : ((t102.length : Int) == 0) = false := beq_eq_false_iff_ne.mpr c21
                have c21b1 : ((t102.length : Int) != 0) = true := bne_iff_ne.mpr c21
                have c21b2 : ¬ (t102 = []) := fun h_ => c21 (by rw [h_]; rfl)
                obtain ⟨ji22, hji22⟩ : ∃ j_ : Int, (Int.tmod (wrap64 (a1)) (t102.length : Int)) = j_ := ⟨_, rfl⟩
                replace H : (if 0 ≤ (ji22) then (if (ji22) < (t102.length : Int) then (if ((rd_T36 t102 (ji22)).f2) < 0 then (topiaristlaw01_LexNotes.j2 kj9 a0 l2 t102 ji22 ((rd_T36 t102 (ji22)).f2) true) else (topiaristlaw01_LexNotes.j2 kj9 a0 l2 t102 ji22 ((rd_T36 t102 (ji22)).f2) (decide (((rd_T36 t102 (ji22)).f2) > (a0.size : Int))))) else (none)) else (none)) = some r := by first | (rw [hji22] at H; exact H) | (simp only [hji22] at H ⊢; exact H)
                by_cases c23 : 0 ≤ (ji22)
                · rw [if_pos c23] at H
                  have c23b0 : decide (0 ≤ (ji22)) = true := decide_eq_true c23
                  clear c23
                  by_cases c24 : (ji22) < (t102.length : Int)
                  · rw [if_pos c24] at H
                    have c24b0 : decide ((ji22) < (t102.length : Int)) = true := decide_eq_true c24
                    clear c24
                    have HC25 := Aside0.mk H
                    clear H
                    obtain ⟨Ao26, co26, eo26⟩ := Kd.R_slice HO_7.out
                    subst eo26
                    have p109 : 0 ≤ ((ji22) : Int) := of_decide_eq_true (by first | (with_reducible assumption) | assumption)
                    have q109 : (ji22) < (t102.length : Int) := of_decide_eq_true (by first | (with_reducible assumption) | assumption)
                    obtain ⟨ad109, e109, hx109_0, hx109_1, hx109_2⟩ := at_T36 (Kd.R_reads' HO_7.out).2.2 (ji22) p109 q109
                    cases e109
                    replace p109 := eq_true p109
                    replace q109 := eq_true q109
                    go_upto_region 8 with (fail)
                    go_cut [57] (fun v57 wc => ∃ (kq : Nat) (x57_24 : Bool), v57 = .bool x57_24 ∧ Aside0 (topiaristlaw01_LexNotes.j2 kq a0 l2 t102 ji22 ((rd_T36 t102 (ji22)).f2) x57_24 = some r) ∧ Aside0 (kq ≤ kj9) ∧ Aside0 (Kd.R k36 36 wc w.heap.size (fun _ => True) (.slice (some ad109) t102.length co26) t102) ∧ Aside0 (wc.heap[gb107]? = some (.cells #[.int .i64 t105, .int .i64 t106] 26 (0, 0))) ∧ Aside0 (Below w.heap.size w wc))
                    case first =>
                      have H := HC25.out
                      clear HC25
                      by_cases c27 : ((rd_T36 t102 (ji22)).f2) < 0
                      · rw [if_pos c27] at H
                        have c27b0 : decide (((rd_T36 t102 (ji22)).f2) < 0) = true := decide_eq_true c27
                        clear c27
                        (first | rw [c27b0] | (simp only [i64_w, i32_w]; rw [c27b0]) | skip)
                        have H' := Aside0.mk H
                        clear H
                        go_wp2
                        go_meet
                        case rel => exact ⟨_, (true), (by first | rfl | (simp; done) | (simp [*]; done)), H', ⟨by have := HJ3.out; have := HJ9.out; first | omega | exact Nat.le_refl _⟩, ⟨by (with_reducible repeat (first | apply Kd.R_alloc | apply Kd.R_drewN | apply Kd.R_drew)); exact HO_7.out⟩, ⟨by (with_reducible repeat (first | refine blk_drewN ?_ _ | refine blk_drew ?_ | refine blk_alloc ?_ _)); exact BK107.out⟩, ⟨by repeat (first | (with_reducible first | exact HB.out | apply below_alloc | apply pw_below_drewN | apply below_drew1 | refine below_set ?_ GE107.out) | exact HB.out)⟩⟩
                      · rw [if_neg c27] at H
                        have c27b0 : decide (((rd_T36 t102 (ji22)).f2) < 0) = false := decide_eq_false c27
                        clear c27
                        (first | rw [c27b0] | (simp only [i64_w, i32_w]; rw [c27b0]) | skip)
                        have H' := Aside0.mk H
                        clear H
                        go_wp2
                        go_meet
                        case rel => exact ⟨_, (decide (((rd_T36 t102 (ji22)).f2) > (a0.size : Int))), (by first | rfl | (simp; done) | (simp only [← hji22] <;> (first | rfl | simp)) | (simp [*]; done)), H', ⟨by have := HJ3.out; have := HJ9.out; first | omega | exact Nat.le_refl _⟩, ⟨by (with_reducible repeat (first | apply Kd.R_alloc | apply Kd.R_drewN | apply Kd.R_drew)); exact HO_7.out⟩, ⟨by (with_reducible repeat (first | refine blk_drewN ?_ _ | refine blk_drew ?_ | refine blk_alloc ?_ _)); exact BK107.out⟩, ⟨by repeat (first | (with_reducible first | exact HB.out | apply below_alloc | apply pw_below_drewN | apply below_drew1 | refine below_set ?_ GE107.out) | exact HB.out)⟩⟩
                    case rest =>
                      clear HC25
                      try clear c1
                      try clear p1
                      try clear q1
                      try clear hx1
                      try clear c2
                      try clear p2
                      try clear c5
                      try clear c5b0
                      try clear c5b1
                      try clear c6
                      try clear p6
                      try clear c7
                      try clear c9
                      try clear c10
                      try clear p10
                      try clear q10
                      try clear hx10
                      try clear c14
                      try clear c14b0
                      try clear c14b1
                      try clear c18
                      try clear c21
                      try clear c21b0
                      try clear c21b1
                      try clear c21b2
                      try clear c23
                      try clear c23b0
                      try clear c24
                      try clear c24b0
                      try clear c27
                      try clear c27b0
                      try clear hcz13_0
                      try clear hcz13_1
                      try clear hcz15_0
                      try clear hcz15_1
                      try clear hcz17_0
                      try clear hcz17_1
                      try clear hfz13_0
                      try clear hfz13_1
                      try clear hfz15_0
                      try clear hfz15_1
                      try clear hfz17_0
                      try clear hfz17_1
                      try clear hx109_0
                      try clear hx109_1
                      try clear hx109_2
                      try clear p109
                      try clear p2
                      try clear q109
                      obtain ⟨kq, x57_24, rfl, HA, HJ24, HO_7, BK107, HB⟩ := hcut
                      cases kq with
                      | zero => exact absurd HA.out (by simp [topiaristlaw01_LexNotes.j2])
                      | succ kj24 =>
                        have H := HA.out
                        clear HA
                        simp only [topiaristlaw01_LexNotes.j2] at H
                        by_cases c28 : x57_24 = true
                        · subst c28
                          have H1 : (some false) = some r := by rw [if_pos rfl] at H; exact H
                          clear H
                          have H := H1
                          clear H1
                          obtain rfl := Option.some.inj H
                          go_wp2
                          go_ret
                          exact ⟨by first | rfl | (simp [errW_none, errW_some] <;> rfl) | (simp only [← hji22]; first | rfl | (simp [errW_none, errW_some] <;> rfl)) | (simp [*, errW_none, errW_some] <;> rfl), by repeat (first | (with_reducible first | exact HB.out | apply below_alloc | apply pw_below_drewN | apply below_drew1 | refine below_set ?_ GE107.out) | exact HB.out)⟩
                        · replace c28 := Bool.eq_false_iff.mpr c28
                          subst c28
                          have H1 : (topiaristlaw01_LexNotes.l0 kj24 a0 l2 t102 ji22 ((rd_T36 t102 (ji22)).f2) (⟨#[]⟩ : ByteArray) 0) = some r := by rw [if_neg (show ¬ (false = true) by decide)] at H; exact H
                          clear H
                          have H := H1
                          clear H1
                          have H' := Aside0.mk H
                          clear H
                          go_wp2
                          go_loopg [11, 12] kj24 (fun kq v11 v12 w' => ∃ (x11_4 : ByteArray) (x12_4 : Int), v11 = .string x11_4 ∧ v12 = .int .i64 x12_4 ∧ Aside0 (topiaristlaw01_LexNotes.l0 kq a0 l2 t102 ji22 ((rd_T36 t102 (ji22)).f2) x11_4 x12_4 = some r) ∧ Aside0 (kq ≤ kj24) ∧ Aside0 (Kd.R k36 36 w' w.heap.size (fun _ => True) (.slice (some ad109) t102.length co26) t102) ∧ Aside0 (w'.heap[gb107]? = some (.cells #[.int .i64 t105, .int .i64 t106] 26 (0, 0))) ∧ Aside0 (Below w.heap.size w w'))
                          case atStart => exact ⟨((⟨#[]⟩ : ByteArray)), (0), (by first | rfl | (simp; done) | (simp [*]; done)), (by first | rfl | (simp; done) | (simp [*]; done)), H', ⟨Nat.le_refl _⟩, ⟨by (with_reducible repeat (first | apply Kd.R_alloc | apply Kd.R_drewN | apply Kd.R_drew)); exact HO_7.out⟩, ⟨by (with_reducible repeat (first | refine blk_drewN ?_ _ | refine blk_drew ?_ | refine blk_alloc ?_ _)); exact BK107.out⟩, ⟨by repeat (first | (with_reducible first | exact HB.out | apply below_alloc | apply pw_below_drewN | apply below_drew1 | refine below_set ?_ GE107.out) | exact HB.out)⟩⟩
                          case round =>
                            clear H'
                            try clear c1
                            try clear p1
                            try clear q1
                            try clear hx1
                            try clear c2
                            try clear p2
                            try clear c5
                            try clear c5b0
                            try clear c5b1
                            try clear c6
                            try clear p6
                            try clear c7
                            try clear c9
                            try clear c10
                            try clear p10
                            try clear q10
                            try clear hx10
                            try clear c14
                            try clear c14b0
                            try clear c14b1
                            try clear c18
                            try clear c21
                            try clear c21b0
                            try clear c21b1
                            try clear c21b2
                            try clear c23
                            try clear c23b0
                            try clear c24
                            try clear c24b0
                            try clear c27
                            try clear c27b0
                            try clear c28
                            try clear hcz13_0
                            try clear hcz13_1
                            try clear hcz15_0
                            try clear hcz15_1
                            try clear hcz17_0
                            try clear hcz17_1
                            try clear hfz13_0
                            try clear hfz13_1
                            try clear hfz15_0
                            try clear hfz15_1
                            try clear hfz17_0
                            try clear hfz17_1
                            try clear hx109_0
                            try clear hx109_1
                            try clear hx109_2
                            try clear p1
                            try clear p10
                            try clear p109
                            try clear p2
                            try clear p6
                            try clear q1
                            try clear q10
                            try clear q109
                            obtain ⟨x11_4, x12_4, rfl, rfl, HA, HK4, HO_7, BK107, HB⟩ := hrel
                            cases gk with
                            | zero => exact absurd HA.out (by simp [topiaristlaw01_LexNotes.l0])
                            | succ k4 =>
                              have H := HA.out
                              clear HA
                              simp only [topiaristlaw01_LexNotes.l0] at H
                              by_cases c29 : x12_4 < (l2.length : Int)
                              · rw [if_pos c29] at H
                                have c29b0 : decide (x12_4 < (l2.length : Int)) = true := decide_eq_true c29
                                clear c29
                                obtain ⟨y110, hy110⟩ : ∃ y_ : List ByteArray, y_ = (([(⟨#[32]⟩ : ByteArray), (⟨#[9]⟩ : ByteArray), (⟨#[10]⟩ : ByteArray), (⟨#[35, 32, 97, 32, 39, 98, 39, 32, 59, 10]⟩ : ByteArray)] : List ByteArray)) := ⟨_, rfl⟩
                                replace H : (if 0 ≤ x12_4 then (if 0 ≤ (Int.tmod (rd l2 x12_4) 4) then (if (Int.tmod (rd l2 x12_4) 4) < (y110.length : Int) then (if x11_4.size + (rdOf ByteArray.empty y110 (Int.tmod (rd l2 x12_4) 4)).size ≤ 9223372036854775807 then (topiaristlaw01_LexNotes.l0 k4 a0 l2 t102 ji22 ((rd_T36 t102 (ji22)).f2) (x11_4 ++ (rdOf ByteArray.empty y110 (Int.tmod (rd l2 x12_4) 4))) (wrap64 (x12_4 + 1))) else (none)) else (none)) else (none)) else (none)) = some r := by first | (rw [hy110]; with_reducible exact H) | (have H2_ := (Option.bind_some _ _).symm.trans H; rw [hy110]; with_reducible exact H2_) | (have H2_ := (Option.bind_some _ _).symm.trans H; with_reducible exact H2_) | with_reducible exact H | (rw [hy110]; exact H) | exact H
                                have Ny110 := Aside0.mk hy110
                                clear hy110
                                by_cases c30 : 0 ≤ x12_4
                                · rw [if_pos c30] at H
                                  have c30b0 : decide (0 ≤ x12_4) = true := decide_eq_true c30
                                  clear c30
                                  obtain ⟨ji31, hji31⟩ : ∃ j_ : Int, (Int.tmod (rd l2 x12_4) 4) = j_ := ⟨_, rfl⟩
                                  replace H : (if 0 ≤ (ji31) then (if (ji31) < (y110.length : Int) then (if x11_4.size + (rdOf ByteArray.empty y110 (ji31)).size ≤ 9223372036854775807 then (topiaristlaw01_LexNotes.l0 k4 a0 l2 t102 ji22 ((rd_T36 t102 (ji22)).f2) (x11_4 ++ (rdOf ByteArray.empty y110 (ji31))) (wrap64 (x12_4 + 1))) else (none)) else (none)) else (none)) = some r := by first | (rw [hji31] at H; exact H) | (simp only [hji31] at H ⊢; exact H)
                                  by_cases c32 : 0 ≤ (ji31)
                                  · rw [if_pos c32] at H
                                    have c32b0 : decide (0 ≤ (ji31)) = true := decide_eq_true c32
                                    clear c32
                                    by_cases c33 : (ji31) < (y110.length : Int)
                                    · rw [if_pos c33] at H
                                      have c33b0 : decide ((ji31) < (y110.length : Int)) = true := decide_eq_true c33
                                      clear c33
                                      by_cases c34 : x11_4.size + (rdOf ByteArray.empty y110 (ji31)).size ≤ 9223372036854775807
                                      · rw [if_pos c34] at H
                                        have c34b0 := eq_true c34
                                        have c34b1 : decide (x11_4.size + (rdOf ByteArray.empty y110 (ji31)).size ≤ 9223372036854775807) = true := decide_eq_true c34
                                        try have c34b2 : (9223372036854775807 < x11_4.size + (rdOf ByteArray.empty y110 (ji31)).size) = False := eq_false (Nat.not_lt.2 c34)
                                        have H' := Aside0.mk H
                                        clear H
                                        go_wp2_with (first | ((with_reducible refine gate_dst (N := 65) rfl ?_); (try (refine gate_guard (by rfl) ?_; dsimp only)); refine Kd.R_lit Kd.string _ 9 ?hg (N := 65) ?hd (xs := ([(⟨#[32]⟩ : ByteArray), (⟨#[9]⟩ : ByteArray), (⟨#[10]⟩ : ByteArray), (⟨#[35, 32, 97, 32, 39, 98, 39, 32, 59, 10]⟩ : ByteArray)] : List ByteArray)) (inner := [.string (⟨#[32]⟩ : ByteArray), .string (⟨#[9]⟩ : ByteArray), .string (⟨#[10]⟩ : ByteArray), .string (⟨#[35, 32, 97, 32, 39, 98, 39, 32, 59, 10]⟩ : ByteArray)]) (ok := fun _ => True) (okp := fun _ => True) ?hr ?hp (fun _ hk => hk) trivial (Below.refl _ _) (Nat.le_refl _) (by simp) ?_; (case hd => rfl); (case hg => rfl); (case hr => first | (go_simp; done) | (go_simp; rfl)); (case hp => exact (Reps.one (show Kd.M Kd.string _ _ _ (⟨#[32]⟩ : ByteArray) [.string (⟨#[32]⟩ : ByteArray)] from rfl) (Reps.one (show Kd.M Kd.string _ _ _ (⟨#[9]⟩ : ByteArray) [.string (⟨#[9]⟩ : ByteArray)] from rfl) (Reps.one (show Kd.M Kd.string _ _ _ (⟨#[10]⟩ : ByteArray) [.string (⟨#[10]⟩ : ByteArray)] from rfl) (Reps.one (show Kd.M Kd.string _ _ _ (⟨#[35, 32, 97, 32, 39, 98, 39, 32, 59, 10]⟩ : ByteArray) [.string (⟨#[35, 32, 97, 32, 39, 98, 39, 32, 59, 10]⟩ : ByteArray)] from rfl) (Reps.none _ _)))))); intro v111 w35 ho36 hb hg_ hnew_; clear hg_ hnew_; (first | rw [← Ny110.out] at ho36 | (simp only [Int.reduceToNat] at ho36; rw [← Ny110.out] at ho36)); have n0_ := Aside0.mk (Kd.R_below (by (with_reducible repeat (first | apply Kd.R_alloc | apply Kd.R_drewN | apply Kd.R_drew)); exact HO_7.out) hb); have n1_ := Aside0.mk (Kd.R_lower ho36 (below_size (by repeat (first | (with_reducible first | exact HB.out | apply below_alloc | apply pw_below_drewN | apply below_drew1 | refine below_set ?_ GE107.out) | exact HB.out)))); have n2_ := Aside0.mk (blk_below (g := gb107) (o := .cells #[.int .i64 t105, .int .i64 t106] 26 (0, 0)) (by (with_reducible repeat (first | refine blk_drewN ?_ _ | refine blk_drew ?_ | refine blk_alloc ?_ _)); exact BK107.out) hb); have n3_ := Aside0.mk (below_step (by repeat (first | (with_reducible first | exact HB.out | apply below_alloc | apply pw_below_drewN | apply below_drew1 | refine below_set ?_ GE107.out) | exact HB.out)) hb); clear HO_7; clear BK107; clear HB; have HO_7 := n0_; have HO112 := n1_; have BK107 := n2_; have HB := n3_; clear n0_ n1_ n2_ n3_; clear hb ho36; have p113 : 0 ≤ (x12_4 : Int) := of_decide_eq_true (by first | (with_reducible assumption) | assumption); have q113 : x12_4 < (l2.length : Int) := of_decide_eq_true (by first | (with_reducible assumption) | assumption); obtain ⟨ad113, e113, hx113_0⟩ := Kd.at_int HR2.out x12_4 p113 q113; cases e113; replace hx113_0 := (HB.out.cell (World.block_lt_of_cell? w _ hx113_0)).trans hx113_0; replace p113 := eq_true p113; replace q113 := eq_true q113; obtain ⟨Ao37, co37, eo37⟩ := Kd.R_slice HO112.out; subst eo37; have p114 : 0 ≤ ((ji31) : Int) := of_decide_eq_true (by first | (with_reducible assumption) | assumption); have q114 : (ji31) < (y110.length : Int) := of_decide_eq_true (by first | (with_reducible assumption) | assumption); obtain ⟨ad114, e114, hx114_0⟩ := Kd.at_string (Kd.R_reads' HO112.out).2.2 (ji31) p114 q114; cases e114; replace p114 := eq_true p114; replace q114 := eq_true q114))
                                        go_roundg k4
                                        case measure => have := HJ3.out; have := HJ9.out; have := HJ24.out; have := HK4.out; omega
                                        case rel => exact ⟨(x11_4 ++ (rdOf ByteArray.empty y110 (ji31))), (wrap64 (x12_4 + 1)), (by first | rfl | (simp; done) | (simp only [← hji31] <;> (first | rfl | simp)) | (simp [*]; done)), (by first | rfl | (simp; done) | (simp [*]; done)), H', ⟨by have := HJ3.out; have := HJ9.out; have := HJ24.out; have := HK4.out; omega⟩, ⟨by (with_reducible repeat (first | apply Kd.R_alloc | apply Kd.R_drewN | apply Kd.R_drew)); exact HO_7.out⟩, ⟨by (with_reducible repeat (first | refine blk_drewN ?_ _ | refine blk_drew ?_ | refine blk_alloc ?_ _)); exact BK107.out⟩, ⟨by repeat (first | (with_reducible first | exact HB.out | apply below_alloc | apply pw_below_drewN | apply below_drew1 | refine below_set ?_ GE107.out) | exact HB.out)⟩⟩
                                      · rw [if_neg c34] at H
                                        exact absurd H (by simp)
                                    · rw [if_neg c33] at H
                                      exact absurd H (by simp)
                                  · rw [if_neg c32] at H
                                    exact absurd H (by simp)
                                · rw [if_neg c30] at H
                                  exact absurd H (by simp)
                              · rw [if_neg c29] at H
                                have c29b0 : decide (x12_4 < (l2.length : Int)) = false := decide_eq_false c29
                                clear c29
                                by_cases c38 : 0 ≤ ((rd_T36 t102 (ji22)).f2)
                                · rw [if_pos c38] at H
                                  have c38b0 := eq_true c38
                                  have c38b1 : decide (0 ≤ ((rd_T36 t102 (ji22)).f2)) = true := decide_eq_true c38
                                  clear c38
                                  by_cases c39 : ((rd_T36 t102 (ji22)).f2) ≤ (a0.size : Int)
                                  · rw [if_pos c39] at H
                                    have c39b0 := eq_true c39
                                    have c39b1 : decide (((rd_T36 t102 (ji22)).f2) ≤ (a0.size : Int)) = true := decide_eq_true c39
                                    clear c39
                                    by_cases c40 : (a0.extract 0 (((rd_T36 t102 (ji22)).f2) : Int).toNat).size + x11_4.size ≤ 9223372036854775807
                                    · rw [if_pos c40] at H
                                      have c40b0 := eq_true c40
                                      have c40b1 : decide ((a0.extract 0 (((rd_T36 t102 (ji22)).f2) : Int).toNat).size + x11_4.size ≤ 9223372036854775807) = true := decide_eq_true c40
                                      try have c40b2 : (9223372036854775807 < (a0.extract 0 (((rd_T36 t102 (ji22)).f2) : Int).toNat).size + x11_4.size) = False := eq_false (Nat.not_lt.2 c40)
                                      have c40n : (9223372036854775807 < ((rd_T36 t102 (ji22)).f2).toNat + x11_4.size) = False := by have z1 := of_decide_eq_true (show decide ((rd_T36 t102 (ji22)).f2 ≤ (a0.size : Int)) = true by assumption); have z2 := c40; rw [Go.Proofs.Ytfbncmcibfkfiaa.Base.size_extract a0 0 _ (by omega)] at z2; exact eq_false (by omega)
                                      have c41b0 := eq_true (of_decide_eq_true (by first | (with_reducible assumption) | assumption) : 0 ≤ ((rd_T36 t102 (ji22)).f2))
                                      have c42b0 := eq_true (of_decide_eq_true (by first | (with_reducible assumption) | assumption) : ((rd_T36 t102 (ji22)).f2) ≤ (a0.size : Int))
                                      by_cases c43 : ((a0.extract 0 (((rd_T36 t102 (ji22)).f2) : Int).toNat) ++ x11_4).size + (a0.extract (((rd_T36 t102 (ji22)).f2) : Int).toNat a0.size).size ≤ 9223372036854775807
                                      · rw [if_pos c43] at H
                                        have c43b0 := eq_true c43
                                        have c43b1 : decide (((a0.extract 0 (((rd_T36 t102 (ji22)).f2) : Int).toNat) ++ x11_4).size + (a0.extract (((rd_T36 t102 (ji22)).f2) : Int).toNat a0.size).size ≤ 9223372036854775807) = true := decide_eq_true c43
                                        try have c43b2 : (9223372036854775807 < ((a0.extract 0 (((rd_T36 t102 (ji22)).f2) : Int).toNat) ++ x11_4).size + (a0.extract (((rd_T36 t102 (ji22)).f2) : Int).toNat a0.size).size) = False := eq_false (Nat.not_lt.2 c43)
                                        have c43n : (9223372036854775807 < ((rd_T36 t102 (ji22)).f2).toNat + x11_4.size + (a0.size - ((rd_T36 t102 (ji22)).f2).toNat)) = False := by have z1 := of_decide_eq_true (show decide ((rd_T36 t102 (ji22)).f2 ≤ (a0.size : Int)) = true by assumption); have z2 := c43; rw [ByteArray.size_append, Go.Proofs.Ytfbncmcibfkfiaa.Base.size_extract a0 0 _ (by omega), Go.Proofs.Ytfbncmcibfkfiaa.Base.size_tail] at z2; exact eq_false (by omega)
                                        replace H := Option.bind_eq_some_iff.mp H
                                        obtain ⟨⟨t115, t118, t119⟩, A440, H⟩ := H
                                        replace H : (if t118 = 0 then (topiaristlaw01_LexNotes.j4 k4 t102 ji22 x11_4 t115 ((t115.length : Int) != (t102.length : Int))) else (topiaristlaw01_LexNotes.j4 k4 t102 ji22 x11_4 t115 true)) = some r := H
                                        have A44 := Aside0.mk A440
                                        clear A440
                                        have HC45 := Aside0.mk H
                                        clear H
                                        try go_wp2
                                        have n0_ := Aside0.mk (Kd.R_drew HO_7.out)
                                        have n1_ := Aside0.mk (blk_drew BK107.out)
                                        have n2_ := Aside0.mk (below_drew1 HB.out)
                                        clear HO_7
                                        clear BK107
                                        clear HB
                                        have HO_7 := n0_
                                        have BK107 := n1_
                                        have HB := n2_
                                        clear n0_ n1_ n2_
                                        refine start_ (n := 16) (S := fun w' => True) (ds := []) #[false, false, false, false, false, false, false, false, false, false, false, false, false, false, false, false] (by kernel_rfl) rfl rfl trivial (fun hHeld => ?_); refine with_tabW topiaristlaw01_LexNotes.tab15 topiaristlaw01_LexNotes.bits15 (fun HT_ HW_ => ?_)
                                        generalize wr.drew = w46 at HO_7 BK107 HB hHeld ⊢
                                        refine pure_ (i := 0) (N := some 75) (v := ?_) (a' := ?_) #[true, false, false, false, false, false, false, false, false, false, false, false, false, false, false, false] rfl rfl (any_of HT_.out (by kernel_rfl)) (fun _ _ _ h => h) (Or.inl ⟨by rfl, ?_⟩) ?_ ?_
                                        rotate_left
                                        · intro w'
                                          go_simp
                                          with_reducible rfl
                                        rotate_left
                                        · simp only [Act.put, List.setIfInBounds_toArray, List.set_cons_zero, List.set_cons_succ, i64_w, i32_w]
                                          rfl
                                        refine pure_ (i := 1) (N := some 76) (v := ?_) (a' := ?_) #[true, true, false, false, false, false, false, false, false, false, false, false, false, false, false, false] rfl rfl (any_of HT_.out (by kernel_rfl)) (fun _ _ _ h => h) (Or.inl ⟨by rfl, ?_⟩) ?_ ?_
                                        rotate_left
                                        · intro w'
                                          go_simp
                                          with_reducible rfl
                                        rotate_left
                                        · simp only [Act.put, List.setIfInBounds_toArray, List.set_cons_zero, List.set_cons_succ, i64_w, i32_w]
                                          rfl
                                        refine pure_ (i := 2) (N := some 77) (v := ?_) (a' := ?_) #[true, true, true, false, false, false, false, false, false, false, false, false, false, false, false, false] rfl rfl (any_of HT_.out (by kernel_rfl)) (fun _ _ _ h => h) (Or.inl ⟨by rfl, ?_⟩) ?_ ?_
                                        rotate_left
                                        · intro w'
                                          go_simp
                                          with_reducible rfl
                                        rotate_left
                                        · simp only [Act.put, List.setIfInBounds_toArray, List.set_cons_zero, List.set_cons_succ, i64_w, i32_w]
                                          rfl
                                        refine pure_ (i := 3) (N := some 78) (v := ?_) (a' := ?_) #[true, true, true, true, false, false, false, false, false, false, false, false, false, false, false, false] rfl rfl (any_of HT_.out (by kernel_rfl)) (fun _ _ _ h => h) (Or.inl ⟨by rfl, ?_⟩) ?_ ?_
                                        rotate_left
                                        · intro w'
                                          go_simp
                                          with_reducible rfl
                                        rotate_left
                                        · simp only [Act.put, List.setIfInBounds_toArray, List.set_cons_zero, List.set_cons_succ, i64_w, i32_w]
                                          rfl
                                        refine pure_ (i := 4) (N := some 79) (v := ?_) (a' := ?_) #[true, true, true, true, true, false, false, false, false, false, false, false, false, false, false, false] rfl rfl (any_of HT_.out (by kernel_rfl)) (fun _ _ _ h => h) (Or.inl ⟨by rfl, ?_⟩) ?_ ?_
                                        rotate_left
                                        · intro w'
                                          go_simp
                                          with_reducible rfl
                                        rotate_left
                                        · simp only [Act.put, List.setIfInBounds_toArray, List.set_cons_zero, List.set_cons_succ, i64_w, i32_w]
                                          rfl
                                        refine pure_ (i := 5) (N := some 80) (v := ?_) (a' := ?_) #[true, true, true, true, true, true, false, false, false, false, false, false, false, false, false, false] rfl rfl (any_of HT_.out (by kernel_rfl)) (fun _ _ _ h => h) (Or.inl ⟨by rfl, ?_⟩) ?_ ?_
                                        rotate_left
                                        · intro w'
                                          go_simp
                                          with_reducible rfl
                                        rotate_left
                                        · simp only [Act.put, List.setIfInBounds_toArray, List.set_cons_zero, List.set_cons_succ, i64_w, i32_w]
                                          rfl
                                        refine pure_ (i := 6) (N := some 81) (v := ?_) (a' := ?_) #[true, true, true, true, true, true, true, false, false, false, false, false, false, false, false, false] rfl rfl (any_of HT_.out (by kernel_rfl)) (fun _ _ _ h => h) (Or.inl ⟨by rfl, ?_⟩) ?_ ?_
                                        rotate_left
                                        · intro w'
                                          go_simp
                                          with_reducible rfl
                                        rotate_left
                                        · simp only [Act.put, List.setIfInBounds_toArray, List.set_cons_zero, List.set_cons_succ, i64_w, i32_w]
                                          rfl
                                        refine pure_ (i := 7) (N := some 82) (v := ?_) (a' := ?_) #[true, true, true, true, true, true, true, true, false, false, false, false, false, false, false, false] rfl rfl (any_of HT_.out (by kernel_rfl)) (fun _ _ _ h => h) (Or.inl ⟨by rfl, ?_⟩) ?_ ?_
                                        rotate_left
                                        · intro w'
                                          go_simp
                                          with_reducible rfl
                                        rotate_left
                                        · simp only [Act.put, List.setIfInBounds_toArray, List.set_cons_zero, List.set_cons_succ, i64_w, i32_w]
                                          rfl
                                        refine pure_ (i := 8) (N := some 83) (v := ?_) (a' := ?_) #[true, true, true, true, true, true, true, true, true, false, false, false, false, false, false, false] rfl rfl (any_of HT_.out (by kernel_rfl)) (fun _ _ _ h => h) (Or.inl ⟨by rfl, ?_⟩) ?_ ?_
                                        rotate_left
                                        · intro w'
                                          go_simp
                                          with_reducible rfl
                                        rotate_left
                                        · simp only [Act.put, List.setIfInBounds_toArray, List.set_cons_zero, List.set_cons_succ, i64_w, i32_w]
                                          rfl
                                        refine join_ (σ := Value × Nat) 2 #[true, true, true, true, true, true, true, true, true, true, true, true, true, true, false, false] (fun s_ => [(84, .tuple #[s_.1, .agg #[.int .i64 t118, .int .i64 t119]]), (14, .pointer (some ⟨s_.2, 0, none⟩)), (74, .tuple #[s_.1, .agg #[.int .i64 t118, .int .i64 t119]]), (85, s_.1), (86, .agg #[.int .i64 t118, .int .i64 t119])]) (fun s_ w' => (Kd.R k36 36 w' w.heap.size (fun k_ => some k_ ≠ (.slice (some ad109) t102.length co26 : Value).ownBlock) s_.1 t115) ∧ (Kd.R k36 36 w' w.heap.size (fun k_ => some k_ ≠ (s_.1 : Value).ownBlock) (.slice (some ad109) t102.length co26) t102) ∧ (w'.heap[gb107]? = some (.cells #[.int .i64 t105, .int .i64 t106] 26 (0, 0))) ∧ (w'.heap[s_.2]? = some (.cells #[.int .i64 0, .int .i64 0] 26 (0, 0))) ∧ (w.heap.size ≤ s_.2) ∧ (w.heap.size ≤ s_.2) ∧ (gb107 ≠ s_.2) ∧ (s_.2 ≠ gb107) ∧ (Below w.heap.size w w')) ?_ ?_
                                        rotate_left
                                        · intro hCont
                                          refine two_ (i := 9) (j := 13) (Ni := some 84) (Nj := some 14) #[true, true, true, true, true, true, true, true, true, true, false, false, false, false, false, false] #[true, true, true, true, true, true, true, true, true, false, false, false, false, true, false, false] rfl rfl rfl rfl (two_of HT_.out (by kernel_rfl)) (by decide) (by decide) (fun K hK => ?_) (fun K hK => ?_)
                                          · skip
                                            refine goes_ Try.func10 (by kernel_rfl) rfl #[.string (((a0.extract 0 (((rd_T36 t102 (ji22)).f2) : Int).toNat) ++ x11_4) ++ (a0.extract (((rd_T36 t102 (ji22)).f2) : Int).toNat a0.size))] (by rfl) rfl rfl (by (try simp only [List.map_toArray, List.map_cons, List.map_nil]); first | done | (simp only [hji22]; rfl) | rfl | (simp only [List.length_drop, List.length_take]; rfl)) ?_
                                            with_reducible refine (lex_Tokens.calls (((a0.extract 0 (((rd_T36 t102 (ji22)).f2) : Int).toNat) ++ x11_4) ++ (a0.extract (((rd_T36 t102 (ji22)).f2) : Int).toNat a0.size)) t115 t118 t119 _ A44.out).mono ?_
                                            rintro e w47 ⟨v116, rfl, ho0, hb⟩
                                            refine ⟨_, rfl, ?_⟩
                                            have n0_ := Aside0.mk (Kd.R_elder' (by (with_reducible repeat (first | apply Kd.R_alloc | apply Kd.R_drewN | apply Kd.R_drew)); exact HO_7.out) (Kd.R_base ho0) hb)
                                            have n1_ := Aside0.mk (Kd.R_lower (Kd.R_new' ho0 (Kd.R_lt (by (with_reducible repeat (first | apply Kd.R_alloc | apply Kd.R_drewN | apply Kd.R_drew)); exact HO_7.out))) (below_size (by repeat (first | (with_reducible first | exact HB.out | apply below_alloc | apply pw_below_drewN | apply below_drew1 | refine below_set ?_ GE107.out) | exact HB.out))))
                                            have n2_ := Aside0.mk (blk_below (g := gb107) (o := .cells #[.int .i64 t105, .int .i64 t106] 26 (0, 0)) (by (with_reducible repeat (first | refine blk_drewN ?_ _ | refine blk_drew ?_ | refine blk_alloc ?_ _)); exact BK107.out) hb)
                                            have n3_ := Aside0.mk (below_step (by repeat (first | (with_reducible first | exact HB.out | apply below_alloc | apply pw_below_drewN | apply below_drew1 | refine below_set ?_ GE107.out) | exact HB.out)) hb)
                                            clear HO_7
                                            clear BK107
                                            clear HB
                                            have HO_7 := n0_
                                            have HO117 := n1_
                                            have BK107 := n2_
                                            have HB := n3_
                                            clear n0_ n1_ n2_ n3_
                                            (try clear hb)
                                            (try clear hb2)
                                            (try clear hk)
                                            (try clear hi)
                                            (try clear ho0)
                                            refine hK.out _ _ trivial (fun hHeld => ?_)
                                            clear hK K
                                            refine norm_ (a' := ?_) ?_ ?_
                                            rotate_left
                                            · show Act.put _ (some 84) _ = _
                                              simp only [Act.put, List.setIfInBounds_toArray, List.set_cons_zero, List.set_cons_succ, i64_w, i32_w]
                                              rfl
                                            refine pure_ (i := 10) (N := some 74) (v := ?_) (a' := ?_) #[true, true, true, true, true, true, true, true, true, true, true, false, false, false, false, false] rfl rfl (any_of HT_.out (by kernel_rfl)) (fun _ _ _ h => h) (Or.inl ⟨by rfl, ?_⟩) ?_ ?_
                                            rotate_left
                                            · intro w'
                                              go_simp
                                              with_reducible rfl
                                            rotate_left
                                            · simp only [Act.put, List.setIfInBounds_toArray, List.set_cons_zero, List.set_cons_succ, i64_w, i32_w]
                                              rfl
                                            refine pure_ (i := 11) (N := some 85) (v := ?_) (a' := ?_) #[true, true, true, true, true, true, true, true, true, true, true, true, false, false, false, false] rfl rfl (any_of HT_.out (by kernel_rfl)) (fun _ _ _ h => h) (Or.inl ⟨by rfl, ?_⟩) ?_ ?_
                                            rotate_left
                                            · intro w'
                                              go_simp
                                              with_reducible rfl
                                            rotate_left
                                            · simp only [Act.put, List.setIfInBounds_toArray, List.set_cons_zero, List.set_cons_succ, i64_w, i32_w]
                                              rfl
                                            refine pure_ (i := 12) (N := some 86) (v := ?_) (a' := ?_) #[true, true, true, true, true, true, true, true, true, true, true, true, true, false, false, false] rfl rfl (any_of HT_.out (by kernel_rfl)) (fun _ _ _ h => h) (Or.inl ⟨by rfl, ?_⟩) ?_ ?_
                                            rotate_left
                                            · intro w'
                                              go_simp
                                              with_reducible rfl
                                            rotate_left
                                            · simp only [Act.put, List.setIfInBounds_toArray, List.set_cons_zero, List.set_cons_succ, i64_w, i32_w]
                                              rfl
                                            refine one_ (i := 13) (N := some 14) #[true, true, true, true, true, true, true, true, true, true, true, true, true, true, false, false] rfl rfl (one_of HT_.out (by kernel_rfl)) (by decide) (fun K hK => ?_)
                                            refine box_step ?hg (N := 14) ?hd (cs := #[.int .i64 0, .int .i64 0]) (t := 26) ?hr ?_; (case hd => rfl); (case hg => rfl); (case hr => first | (go_simp; done) | (go_simp; rfl))
                                            intro gb120 hg w48 hbox hb
                                            have n0_ := Aside0.mk (Kd.R_below (by (with_reducible repeat (first | apply Kd.R_alloc | apply Kd.R_drewN | apply Kd.R_drew)); exact HO_7.out) hb)
                                            have n1_ := Aside0.mk (Kd.R_below (by (with_reducible repeat (first | apply Kd.R_alloc | apply Kd.R_drewN | apply Kd.R_drew)); exact HO117.out) hb)
                                            have n2_ := Aside0.mk (blk_below (g := gb107) (o := .cells #[.int .i64 t105, .int .i64 t106] 26 (0, 0)) (by (with_reducible repeat (first | refine blk_drewN ?_ _ | refine blk_drew ?_ | refine blk_alloc ?_ _)); exact BK107.out) hb)
                                            have n3_ := Aside0.mk (below_step (by repeat (first | (with_reducible first | exact HB.out | apply below_alloc | apply pw_below_drewN | apply below_drew1 | refine below_set ?_ GE107.out) | exact HB.out)) hb)
                                            have n4_ := Aside0.mk (hbox)
                                            have n5_ := Aside0.mk ((by rw [hg]; exact (below_size (by repeat (first | (with_reducible first | exact HB.out | apply below_alloc | apply pw_below_drewN | apply below_drew1 | refine below_set ?_ GE107.out) | exact HB.out))) : w.heap.size ≤ gb120))
                                            have n6_ := Aside0.mk ((by rw [hg]; exact (below_size (by repeat (first | (with_reducible first | exact HB.out | apply below_alloc | apply pw_below_drewN | apply below_drew1 | refine below_set ?_ GE107.out) | exact HB.out))) : w.heap.size ≤ gb120))
                                            have n7_ := Aside0.mk ((by rw [hg]; exact Nat.ne_of_lt (blk_lt (g := gb107) (o := .cells #[.int .i64 t105, .int .i64 t106] 26 (0, 0)) (by (with_reducible repeat (first | refine blk_drewN ?_ _ | refine blk_drew ?_ | refine blk_alloc ?_ _)); exact BK107.out)) : gb107 ≠ gb120))
                                            have n8_ := Aside0.mk ((by rw [hg]; exact Nat.ne_of_gt (blk_lt (g := gb107) (o := .cells #[.int .i64 t105, .int .i64 t106] 26 (0, 0)) (by (with_reducible repeat (first | refine blk_drewN ?_ _ | refine blk_drew ?_ | refine blk_alloc ?_ _)); exact BK107.out)) : gb120 ≠ gb107))
                                            clear HO_7
                                            clear HO117
                                            clear BK107
                                            clear HB
                                            have HO_7 := n0_
                                            have HO117 := n1_
                                            have BK107 := n2_
                                            have HB := n3_
                                            have BK120 := n4_
                                            have GW120 := n5_
                                            have GE120 := n6_
                                            have NB107_120 := n7_
                                            have NB120_107 := n8_
                                            clear n0_ n1_ n2_ n3_ n4_ n5_ n6_ n7_ n8_
                                            clear hb hbox hg
                                            refine hK.out _ _ trivial (fun hHeld => ?_)
                                            clear hK K
                                            refine norm_ (a' := ?_) ?_ ?_
                                            rotate_left
                                            · show Act.put _ (some 14) _ = _
                                              simp only [Act.put, List.setIfInBounds_toArray, List.set_cons_zero, List.set_cons_succ, i64_w, i32_w]
                                              rfl
                                            exact norm_ (by simp only [putAll, Act.put, List.setIfInBounds_toArray, List.set_cons_zero, List.set_cons_succ]) (hCont (v116, gb120) _ ⟨(by (with_reducible repeat (first | apply Kd.R_alloc | apply Kd.R_drewN | apply Kd.R_drew)); exact Kd.R_mono HO117.out (fun _ hk => hk.2)), (by (with_reducible repeat (first | apply Kd.R_alloc | apply Kd.R_drewN | apply Kd.R_drew)); exact Kd.R_mono HO_7.out (fun _ hk => hk.2)), (by (with_reducible repeat (first | refine blk_drewN ?_ _ | refine blk_drew ?_ | refine blk_alloc ?_ _)); exact BK107.out), (by (with_reducible repeat (first | refine blk_drewN ?_ _ | refine blk_drew ?_ | refine blk_alloc ?_ _)); exact BK120.out), GW120.out, GE120.out, NB107_120.out, NB120_107.out, (by repeat (first | (with_reducible first | exact HB.out | apply below_alloc | apply pw_below_drewN | apply below_drew1 | refine below_set ?_ GE107.out | refine below_set ?_ GE120.out) | exact HB.out))⟩)
                                          · skip
                                            refine box_step ?hg (N := 14) ?hd (cs := #[.int .i64 0, .int .i64 0]) (t := 26) ?hr ?_; (case hd => rfl); (case hg => rfl); (case hr => first | (go_simp; done) | (go_simp; rfl))
                                            intro gb120 hg w47 hbox hb
                                            have n0_ := Aside0.mk (Kd.R_below (by (with_reducible repeat (first | apply Kd.R_alloc | apply Kd.R_drewN | apply Kd.R_drew)); exact HO_7.out) hb)
                                            have n1_ := Aside0.mk (blk_below (g := gb107) (o := .cells #[.int .i64 t105, .int .i64 t106] 26 (0, 0)) (by (with_reducible repeat (first | refine blk_drewN ?_ _ | refine blk_drew ?_ | refine blk_alloc ?_ _)); exact BK107.out) hb)
                                            have n2_ := Aside0.mk (below_step (by repeat (first | (with_reducible first | exact HB.out | apply below_alloc | apply pw_below_drewN | apply below_drew1 | refine below_set ?_ GE107.out) | exact HB.out)) hb)
                                            have n3_ := Aside0.mk (hbox)
                                            have n4_ := Aside0.mk ((by rw [hg]; exact (below_size (by repeat (first | (with_reducible first | exact HB.out | apply below_alloc | apply pw_below_drewN | apply below_drew1 | refine below_set ?_ GE107.out) | exact HB.out))) : w.heap.size ≤ gb120))
                                            have n5_ := Aside0.mk ((by rw [hg]; exact (below_size (by repeat (first | (with_reducible first | exact HB.out | apply below_alloc | apply pw_below_drewN | apply below_drew1 | refine below_set ?_ GE107.out) | exact HB.out))) : w.heap.size ≤ gb120))
                                            have n6_ := Aside0.mk ((by rw [hg]; exact Nat.ne_of_lt (blk_lt (g := gb107) (o := .cells #[.int .i64 t105, .int .i64 t106] 26 (0, 0)) (by (with_reducible repeat (first | refine blk_drewN ?_ _ | refine blk_drew ?_ | refine blk_alloc ?_ _)); exact BK107.out)) : gb107 ≠ gb120))
                                            have n7_ := Aside0.mk ((by rw [hg]; exact Nat.ne_of_gt (blk_lt (g := gb107) (o := .cells #[.int .i64 t105, .int .i64 t106] 26 (0, 0)) (by (with_reducible repeat (first | refine blk_drewN ?_ _ | refine blk_drew ?_ | refine blk_alloc ?_ _)); exact BK107.out)) : gb120 ≠ gb107))
                                            clear HO_7
                                            clear BK107
                                            clear HB
                                            have HO_7 := n0_
                                            have BK107 := n1_
                                            have HB := n2_
                                            have BK120 := n3_
                                            have GW120 := n4_
                                            have GE120 := n5_
                                            have NB107_120 := n6_
                                            have NB120_107 := n7_
                                            clear n0_ n1_ n2_ n3_ n4_ n5_ n6_ n7_
                                            clear hb hbox hg
                                            refine hK.out _ _ trivial (fun hHeld => ?_)
                                            clear hK K
                                            refine norm_ (a' := ?_) ?_ ?_
                                            rotate_left
                                            · show Act.put _ (some 14) _ = _
                                              simp only [Act.put, List.setIfInBounds_toArray, List.set_cons_zero, List.set_cons_succ, i64_w, i32_w]
                                              rfl
                                            refine one_ (i := 9) (N := some 84) #[true, true, true, true, true, true, true, true, true, true, false, false, false, true, false, false] rfl rfl (one_of HT_.out (by kernel_rfl)) (by decide) (fun K hK => ?_)
                                            refine goes_ Try.func10 (by kernel_rfl) rfl #[.string (((a0.extract 0 (((rd_T36 t102 (ji22)).f2) : Int).toNat) ++ x11_4) ++ (a0.extract (((rd_T36 t102 (ji22)).f2) : Int).toNat a0.size))] (by rfl) rfl rfl (by (try simp only [List.map_toArray, List.map_cons, List.map_nil]); first | done | (simp only [hji22]; rfl) | rfl | (simp only [List.length_drop, List.length_take]; rfl)) ?_
                                            with_reducible refine (lex_Tokens.calls (((a0.extract 0 (((rd_T36 t102 (ji22)).f2) : Int).toNat) ++ x11_4) ++ (a0.extract (((rd_T36 t102 (ji22)).f2) : Int).toNat a0.size)) t115 t118 t119 _ A44.out).mono ?_
                                            rintro e w48 ⟨v116, rfl, ho0, hb⟩
                                            refine ⟨_, rfl, ?_⟩
                                            have n0_ := Aside0.mk (Kd.R_elder' (by (with_reducible repeat (first | apply Kd.R_alloc | apply Kd.R_drewN | apply Kd.R_drew)); exact HO_7.out) (Kd.R_base ho0) hb)
                                            have n1_ := Aside0.mk (Kd.R_lower (Kd.R_new' ho0 (Kd.R_lt (by (with_reducible repeat (first | apply Kd.R_alloc | apply Kd.R_drewN | apply Kd.R_drew)); exact HO_7.out))) (below_size (by repeat (first | (with_reducible first | exact HB.out | apply below_alloc | apply pw_below_drewN | apply below_drew1 | refine below_set ?_ GE107.out | refine below_set ?_ GE120.out) | exact HB.out))))
                                            have n2_ := Aside0.mk (blk_below (g := gb107) (o := .cells #[.int .i64 t105, .int .i64 t106] 26 (0, 0)) (by (with_reducible repeat (first | refine blk_drewN ?_ _ | refine blk_drew ?_ | refine blk_alloc ?_ _)); exact BK107.out) hb)
                                            have n3_ := Aside0.mk (blk_below (g := gb120) (o := .cells #[.int .i64 0, .int .i64 0] 26 (0, 0)) (by (with_reducible repeat (first | refine blk_drewN ?_ _ | refine blk_drew ?_ | refine blk_alloc ?_ _)); exact BK120.out) hb)
                                            have n4_ := Aside0.mk (below_step (by repeat (first | (with_reducible first | exact HB.out | apply below_alloc | apply pw_below_drewN | apply below_drew1 | refine below_set ?_ GE107.out | refine below_set ?_ GE120.out) | exact HB.out)) hb)
                                            clear HO_7
                                            clear BK107
                                            clear BK120
                                            clear HB
                                            have HO_7 := n0_
                                            have HO117 := n1_
                                            have BK107 := n2_
                                            have BK120 := n3_
                                            have HB := n4_
                                            clear n0_ n1_ n2_ n3_ n4_
                                            (try clear hb)
                                            (try clear hb2)
                                            (try clear hk)
                                            (try clear hi)
                                            (try clear ho0)
                                            refine hK.out _ _ trivial (fun hHeld => ?_)
                                            clear hK K
                                            refine norm_ (a' := ?_) ?_ ?_
                                            rotate_left
                                            · show Act.put _ (some 84) _ = _
                                              simp only [Act.put, List.setIfInBounds_toArray, List.set_cons_zero, List.set_cons_succ, i64_w, i32_w]
                                              rfl
                                            refine pure_ (i := 10) (N := some 74) (v := ?_) (a' := ?_) #[true, true, true, true, true, true, true, true, true, true, true, false, false, true, false, false] rfl rfl (any_of HT_.out (by kernel_rfl)) (fun _ _ _ h => h) (Or.inl ⟨by rfl, ?_⟩) ?_ ?_
                                            rotate_left
                                            · intro w'
                                              go_simp
                                              with_reducible rfl
                                            rotate_left
                                            · simp only [Act.put, List.setIfInBounds_toArray, List.set_cons_zero, List.set_cons_succ, i64_w, i32_w]
                                              rfl
                                            refine pure_ (i := 11) (N := some 85) (v := ?_) (a' := ?_) #[true, true, true, true, true, true, true, true, true, true, true, true, false, true, false, false] rfl rfl (any_of HT_.out (by kernel_rfl)) (fun _ _ _ h => h) (Or.inl ⟨by rfl, ?_⟩) ?_ ?_
                                            rotate_left
                                            · intro w'
                                              go_simp
                                              with_reducible rfl
                                            rotate_left
                                            · simp only [Act.put, List.setIfInBounds_toArray, List.set_cons_zero, List.set_cons_succ, i64_w, i32_w]
                                              rfl
                                            refine pure_ (i := 12) (N := some 86) (v := ?_) (a' := ?_) #[true, true, true, true, true, true, true, true, true, true, true, true, true, true, false, false] rfl rfl (any_of HT_.out (by kernel_rfl)) (fun _ _ _ h => h) (Or.inl ⟨by rfl, ?_⟩) ?_ ?_
                                            rotate_left
                                            · intro w'
                                              go_simp
                                              with_reducible rfl
                                            rotate_left
                                            · simp only [Act.put, List.setIfInBounds_toArray, List.set_cons_zero, List.set_cons_succ, i64_w, i32_w]
                                              rfl
                                            exact norm_ (by simp only [putAll, Act.put, List.setIfInBounds_toArray, List.set_cons_zero, List.set_cons_succ]) (hCont (v116, gb120) _ ⟨(by (with_reducible repeat (first | apply Kd.R_alloc | apply Kd.R_drewN | apply Kd.R_drew)); exact Kd.R_mono HO117.out (fun _ hk => hk.2)), (by (with_reducible repeat (first | apply Kd.R_alloc | apply Kd.R_drewN | apply Kd.R_drew)); exact Kd.R_mono HO_7.out (fun _ hk => hk.2)), (by (with_reducible repeat (first | refine blk_drewN ?_ _ | refine blk_drew ?_ | refine blk_alloc ?_ _)); exact BK107.out), (by (with_reducible repeat (first | refine blk_drewN ?_ _ | refine blk_drew ?_ | refine blk_alloc ?_ _)); exact BK120.out), GW120.out, GE120.out, NB107_120.out, NB120_107.out, (by repeat (first | (with_reducible first | exact HB.out | apply below_alloc | apply pw_below_drewN | apply below_drew1 | refine below_set ?_ GE107.out | refine below_set ?_ GE120.out) | exact HB.out))⟩)
                                        rintro ⟨v116, gb120⟩ w49 ⟨h0_, h1_, h2_, h3_, h4_, h5_, h6_, h7_, h8_⟩
                                        have n0_ : Aside0 (Kd.R k36 36 w49 w.heap.size (fun k_ => some k_ ≠ (.slice (some ad109) t102.length co26 : Value).ownBlock) v116 t115) := ⟨h0_⟩
                                        have n1_ : Aside0 (Kd.R k36 36 w49 w.heap.size (fun k_ => some k_ ≠ (v116 : Value).ownBlock) (.slice (some ad109) t102.length co26) t102) := ⟨h1_⟩
                                        have n2_ : Aside0 (w49.heap[gb107]? = some (.cells #[.int .i64 t105, .int .i64 t106] 26 (0, 0))) := ⟨h2_⟩
                                        have n3_ : Aside0 (w49.heap[gb120]? = some (.cells #[.int .i64 0, .int .i64 0] 26 (0, 0))) := ⟨h3_⟩
                                        have n4_ : Aside0 (w.heap.size ≤ gb120) := ⟨h4_⟩
                                        have n5_ : Aside0 (w.heap.size ≤ gb120) := ⟨h5_⟩
                                        have n6_ : Aside0 (gb107 ≠ gb120) := ⟨h6_⟩
                                        have n7_ : Aside0 (gb120 ≠ gb107) := ⟨h7_⟩
                                        have n8_ : Aside0 (Below w.heap.size w w49) := ⟨h8_⟩
                                        clear HO_7
                                        clear BK107
                                        clear HB
                                        clear h0_ h1_ h2_ h3_ h4_ h5_ h6_ h7_ h8_
                                        have HO117 := n0_
                                        have HO_7 := n1_
                                        have BK107 := n2_
                                        have BK120 := n3_
                                        have GW120 := n4_
                                        have GE120 := n5_
                                        have NB107_120 := n6_
                                        have NB120_107 := n7_
                                        have HB := n8_
                                        clear n0_ n1_ n2_ n3_ n4_ n5_ n6_ n7_ n8_
                                        have hHeld := trivial
                                        refine norm_ (a' := ?_) ?_ ?_
                                        rotate_left
                                        · simp only [putAll, Act.put, List.setIfInBounds_toArray, List.set_cons_zero, List.set_cons_succ]
                                          rfl
                                        refine pure_ (i := 14) (N := some 13) (v := ?_) (a' := ?_) #[true, true, true, true, true, true, true, true, true, true, true, true, true, true, true, false] rfl rfl (any_of HT_.out (by kernel_rfl)) (fun _ _ _ h => h) (Or.inl ⟨by rfl, ?_⟩) ?_ ?_
                                        rotate_left
                                        · intro w'
                                          go_simp
                                          with_reducible rfl
                                        rotate_left
                                        · simp only [Act.put, List.setIfInBounds_toArray, List.set_cons_zero, List.set_cons_succ, i64_w, i32_w]
                                          rfl
                                        refine one_ (i := 15) (N := none) #[true, true, true, true, true, true, true, true, true, true, true, true, true, true, true, true] rfl rfl (one_of HT_.out (by kernel_rfl)) (by decide) (fun K hK => ?_)
                                        have hs50 : w49.cell? ⟨gb120, 0, none⟩ = some (.int .i64 0) := (blk_cell BK120.out 0).trans rfl
                                        have hfs50 := blk_frozen BK120.out 0
                                        have hns50_0 := NB107_120.out
                                        have hms50_0 := NB120_107.out
                                        have hs51 : w49.cell? ⟨gb120, 1, none⟩ = some (.int .i64 0) := (blk_cell BK120.out 1).trans rfl
                                        have hfs51 := blk_frozen BK120.out 1
                                        have hns51_0 := NB107_120.out
                                        have hms51_0 := NB120_107.out
                                        refine skip_ (w1 := ?_) (by rfl) rfl ?_ ?_
                                        rotate_left
                                        · go_simp
                                          rfl
                                        refine hK.out _ _ trivial (fun hHeld => ?_)
                                        clear hK K
                                        refine done_ (done_of HT_.out (by kernel_rfl)) ?_
                                        go_upto_region 16 with (fail)
                                        go_cut [96] (fun v96 wc => ∃ (kq : Nat) (x96_44 : Bool), v96 = .bool x96_44 ∧ Aside0 (topiaristlaw01_LexNotes.j4 kq t102 ji22 x11_4 t115 x96_44 = some r) ∧ Aside0 (kq ≤ k4) ∧ Aside0 (Kd.R k36 36 wc w.heap.size (fun k_ => some k_ ≠ (v116 : Value).ownBlock) (.slice (some ad109) t102.length co26) t102) ∧ Aside0 (Kd.R k36 36 wc w.heap.size (fun k_ => some k_ ≠ ((.slice (some ad109) t102.length co26) : Value).ownBlock) v116 t115) ∧ Aside0 (wc.heap[gb107]? = some (.cells #[.int .i64 t105, .int .i64 t106] 26 (0, 0))) ∧ Aside0 (wc.heap[gb120]? = some (.cells #[.int .i64 t118, .int .i64 t119] 26 (0, 0))) ∧ Aside0 (Below w.heap.size w wc))
                                        case first =>
                                          have H := HC45.out
                                          clear HC45
                                          by_cases c52 : t118 = 0
                                          · rw [if_pos c52] at H
                                            have c52b0 : (t118 == 0) = true := beq_iff_eq.mpr c52
                                            have c52b1 : (t118 != 0) = false := bne_eq_false_iff_eq.mpr c52
                                            clear c52
                                            (first | rw [c52b0] | (simp only [i64_w, i32_w]; rw [c52b0]) | skip)
                                            have H' := Aside0.mk H
                                            clear H
                                            have hnb53 := NB120_107.out
                                            have hnc53 := NB107_120.out
                                            have hcz54_0 : w49.cell? ⟨gb120, 0, none⟩ = some (.int .i64 0) := (blk_cell BK120.out 0).trans rfl
                                            have hcz54_1 : w49.cell? ⟨gb120, 1, none⟩ = some (.int .i64 0) := (blk_cell BK120.out 1).trans rfl
                                            have hfz54_0 := blk_frozen BK120.out 0
                                            have hfz54_1 := blk_frozen BK120.out 1
                                            obtain ⟨Ao55, co55, eo55⟩ := Kd.R_slice HO117.out
                                            subst eo55
                                            go_wp2
                                            go_meet
                                            case rel => exact ⟨_, (((t115.length : Int) != (t102.length : Int))), (by first | rfl | (simp; done) | (simp [*]; done)), H', ⟨by have := HJ3.out; have := HJ9.out; have := HJ24.out; have := HK4.out; first | omega | exact Nat.le_refl _⟩, ⟨by (with_reducible repeat (first | apply Kd.R_alloc | apply Kd.R_drewN | apply Kd.R_drew)); exact Kd.R_mono (Kd.R_far (p := ⟨gb120, 1, none⟩) (Kd.R_far (p := ⟨gb120, 0, none⟩) (Kd.R_types HO_7.out BK120.out (by decide)) (fun _ hk => hk.2) (.int .i64 t118)) (fun _ hk => hk.2) (.int .i64 t119)) (fun _ hk => hk.1)⟩, ⟨by (with_reducible repeat (first | apply Kd.R_alloc | apply Kd.R_drewN | apply Kd.R_drew)); exact Kd.R_mono (Kd.R_far (p := ⟨gb120, 1, none⟩) (Kd.R_far (p := ⟨gb120, 0, none⟩) (Kd.R_types HO117.out BK120.out (by decide)) (fun _ hk => hk.2) (.int .i64 t118)) (fun _ hk => hk.2) (.int .i64 t119)) (fun _ hk => hk.1)⟩, ⟨by (with_reducible repeat (first | refine blk_drewN ?_ _ | refine blk_drew ?_ | refine blk_alloc ?_ _)); refine blk_far ?_ NB107_120.out _; (with_reducible repeat (first | refine blk_drewN ?_ _ | refine blk_drew ?_ | refine blk_alloc ?_ _)); refine blk_far ?_ NB107_120.out _; (with_reducible repeat (first | refine blk_drewN ?_ _ | refine blk_drew ?_ | refine blk_alloc ?_ _)); exact BK107.out⟩, ⟨by (with_reducible repeat (first | refine blk_drewN ?_ _ | refine blk_drew ?_ | refine blk_alloc ?_ _)); refine blk_put (cs := #[.int .i64 t118, .int .i64 0]) ?_ 1 _ rfl; (with_reducible repeat (first | refine blk_drewN ?_ _ | refine blk_drew ?_ | refine blk_alloc ?_ _)); refine blk_put (cs := #[.int .i64 0, .int .i64 0]) ?_ 0 _ rfl; (with_reducible repeat (first | refine blk_drewN ?_ _ | refine blk_drew ?_ | refine blk_alloc ?_ _)); exact BK120.out⟩, ⟨by repeat (first | (with_reducible first | exact HB.out | apply below_alloc | apply pw_below_drewN | apply below_drew1 | refine below_set ?_ GE107.out | refine below_set ?_ GE120.out) | exact HB.out)⟩⟩
                                          · rw [if_neg c52] at H
                                            have c52b0 : (t118 == 0) = false := beq_eq_false_iff_ne.mpr c52
                                            have c52b1 : (t118 != 0) = true := bne_iff_ne.mpr c52
                                            (first | rw [c52b0] | (simp only [i64_w, i32_w]; rw [c52b0]) | skip)
                                            have H' := Aside0.mk H
                                            clear H
                                            have hnb56 := NB120_107.out
                                            have hnc56 := NB107_120.out
                                            have hcz57_0 : w49.cell? ⟨gb120, 0, none⟩ = some (.int .i64 0) := (blk_cell BK120.out 0).trans rfl
                                            have hcz57_1 : w49.cell? ⟨gb120, 1, none⟩ = some (.int .i64 0) := (blk_cell BK120.out 1).trans rfl
                                            have hfz57_0 := blk_frozen BK120.out 0
                                            have hfz57_1 := blk_frozen BK120.out 1
                                            go_wp2
                                            go_meet
                                            case rel => exact ⟨_, (true), (by first | rfl | (simp; done) | (simp [*]; done)), H', ⟨by have := HJ3.out; have := HJ9.out; have := HJ24.out; have := HK4.out; first | omega | exact Nat.le_refl _⟩, ⟨by (with_reducible repeat (first | apply Kd.R_alloc | apply Kd.R_drewN | apply Kd.R_drew)); exact Kd.R_mono (Kd.R_far (p := ⟨gb120, 1, none⟩) (Kd.R_far (p := ⟨gb120, 0, none⟩) (Kd.R_types HO_7.out BK120.out (by decide)) (fun _ hk => hk.2) (.int .i64 t118)) (fun _ hk => hk.2) (.int .i64 t119)) (fun _ hk => hk.1)⟩, ⟨by (with_reducible repeat (first | apply Kd.R_alloc | apply Kd.R_drewN | apply Kd.R_drew)); exact Kd.R_mono (Kd.R_far (p := ⟨gb120, 1, none⟩) (Kd.R_far (p := ⟨gb120, 0, none⟩) (Kd.R_types HO117.out BK120.out (by decide)) (fun _ hk => hk.2) (.int .i64 t118)) (fun _ hk => hk.2) (.int .i64 t119)) (fun _ hk => hk.1)⟩, ⟨by (with_reducible repeat (first | refine blk_drewN ?_ _ | refine blk_drew ?_ | refine blk_alloc ?_ _)); refine blk_far ?_ NB107_120.out _; (with_reducible repeat (first | refine blk_drewN ?_ _ | refine blk_drew ?_ | refine blk_alloc ?_ _)); refine blk_far ?_ NB107_120.out _; (with_reducible repeat (first | refine blk_drewN ?_ _ | refine blk_drew ?_ | refine blk_alloc ?_ _)); exact BK107.out⟩, ⟨by (with_reducible repeat (first | refine blk_drewN ?_ _ | refine blk_drew ?_ | refine blk_alloc ?_ _)); refine blk_put (cs := #[.int .i64 t118, .int .i64 0]) ?_ 1 _ rfl; (with_reducible repeat (first | refine blk_drewN ?_ _ | refine blk_drew ?_ | refine blk_alloc ?_ _)); refine blk_put (cs := #[.int .i64 0, .int .i64 0]) ?_ 0 _ rfl; (with_reducible repeat (first | refine blk_drewN ?_ _ | refine blk_drew ?_ | refine blk_alloc ?_ _)); exact BK120.out⟩, ⟨by repeat (first | (with_reducible first | exact HB.out | apply below_alloc | apply pw_below_drewN | apply below_drew1 | refine below_set ?_ GE107.out | refine below_set ?_ GE120.out) | exact HB.out)⟩⟩
                                        case rest =>
                                          clear HC45
                                          try clear c1
                                          try clear p1
                                          try clear q1
                                          try clear hx1
                                          try clear c2
                                          try clear p2
                                          try clear c3
                                          try clear c4
                                          try clear c5
                                          try clear c5b0
                                          try clear c5b1
                                          try clear c6
                                          try clear p6
                                          try clear c7
                                          try clear c9
                                          try clear c10
                                          try clear p10
                                          try clear q10
                                          try clear hx10
                                          try clear p11
                                          try clear q11
                                          try clear hx11
                                          try clear c14
                                          try clear c14b0
                                          try clear c14b1
                                          try clear c18
                                          try clear c21
                                          try clear c21b0
                                          try clear c21b1
                                          try clear c21b2
                                          try clear c23
                                          try clear c23b0
                                          try clear c24
                                          try clear c24b0
                                          try clear c27
                                          try clear c27b0
                                          try clear c28
                                          try clear c29
                                          try clear c29b0
                                          try clear c30
                                          try clear c30b0
                                          try clear c32
                                          try clear c32b0
                                          try clear c33
                                          try clear c33b0
                                          try clear c34
                                          try clear c34b0
                                          try clear c34b1
                                          try clear c34b2
                                          try clear c38
                                          try clear c38b0
                                          try clear c38b1
                                          try clear c39
                                          try clear c39b0
                                          try clear c39b1
                                          try clear c40
                                          try clear c40b0
                                          try clear c40b1
                                          try clear c40b2
                                          try clear c41
                                          try clear c41b0
                                          try clear c42
                                          try clear c42b0
                                          try clear c43
                                          try clear c43b0
                                          try clear c43b1
                                          try clear c43b2
                                          try clear c52
                                          try clear c52b0
                                          try clear c52b1
                                          try clear c53
                                          try clear c56
                                          try clear hcz13_0
                                          try clear hcz13_1
                                          try clear hcz15_0
                                          try clear hcz15_1
                                          try clear hcz17_0
                                          try clear hcz17_1
                                          try clear hcz54_0
                                          try clear hcz54_1
                                          try clear hcz57_0
                                          try clear hcz57_1
                                          try clear hfz13_0
                                          try clear hfz13_1
                                          try clear hfz15_0
                                          try clear hfz15_1
                                          try clear hfz17_0
                                          try clear hfz17_1
                                          try clear hfz54_0
                                          try clear hfz54_1
                                          try clear hfz57_0
                                          try clear hfz57_1
                                          try clear hx109_0
                                          try clear hx109_1
                                          try clear hx109_2
                                          try clear hx113_0
                                          try clear hx114_0
                                          try clear p1
                                          try clear p10
                                          try clear p109
                                          try clear p113
                                          try clear p114
                                          try clear p2
                                          try clear p6
                                          try clear q1
                                          try clear q10
                                          try clear q109
                                          try clear q113
                                          try clear q114
                                          obtain ⟨kq, x96_44, rfl, HA, HJ44, HO_7, HO_13, BK107, BK120, HB⟩ := hcut
                                          cases kq with
                                          | zero => exact absurd HA.out (by simp [topiaristlaw01_LexNotes.j4])
                                          | succ kj44 =>
                                            have H := HA.out
                                            clear HA
                                            simp only [topiaristlaw01_LexNotes.j4] at H
                                            by_cases c58 : x96_44 = true
                                            · subst c58
                                              have H1 : (some false) = some r := by rw [if_pos rfl] at H; exact H
                                              clear H
                                              have H := H1
                                              clear H1
                                              obtain rfl := Option.some.inj H
                                              go_wp2
                                              go_ret
                                              exact ⟨by first | rfl | (simp [errW_none, errW_some] <;> rfl) | (simp only [← hji22]; first | rfl | (simp [errW_none, errW_some] <;> rfl)) | (simp [*, errW_none, errW_some] <;> rfl), by repeat (first | (with_reducible first | exact HB.out | apply below_alloc | apply pw_below_drewN | apply below_drew1 | refine below_set ?_ GE107.out | refine below_set ?_ GE120.out) | exact HB.out)⟩
                                            · replace c58 := Bool.eq_false_iff.mpr c58
                                              subst c58
                                              have H1 : (topiaristlaw01_LexNotes.l1 kj44 t102 ji22 x11_4 t115 0) = some r := by rw [if_neg (show ¬ (false = true) by decide)] at H; exact H
                                              clear H
                                              have H := H1
                                              clear H1
                                              have H' := Aside0.mk H
                                              clear H
                                              go_wp2
                                              go_loopg [15] kj44 (fun kq v15 w' => ∃ (x15_6 : Int), v15 = .int .i64 x15_6 ∧ Aside0 (topiaristlaw01_LexNotes.l1 kq t102 ji22 x11_4 t115 x15_6 = some r) ∧ Aside0 (kq ≤ kj44) ∧ Aside0 (Kd.R k36 36 w' w.heap.size (fun k_ => some k_ ≠ (v116 : Value).ownBlock) (.slice (some ad109) t102.length co26) t102) ∧ Aside0 (Kd.R k36 36 w' w.heap.size (fun k_ => some k_ ≠ ((.slice (some ad109) t102.length co26) : Value).ownBlock) v116 t115) ∧ Aside0 (w'.heap[gb107]? = some (.cells #[.int .i64 t105, .int .i64 t106] 26 (0, 0))) ∧ Aside0 (w'.heap[gb120]? = some (.cells #[.int .i64 t118, .int .i64 t119] 26 (0, 0))) ∧ Aside0 (Below w.heap.size w w'))
                                              case atStart => exact ⟨(0), (by first | rfl | (simp; done) | (simp [*]; done)), H', ⟨Nat.le_refl _⟩, ⟨by (with_reducible repeat (first | apply Kd.R_alloc | apply Kd.R_drewN | apply Kd.R_drew)); exact HO_7.out⟩, ⟨by (with_reducible repeat (first | apply Kd.R_alloc | apply Kd.R_drewN | apply Kd.R_drew)); exact HO_13.out⟩, ⟨by (with_reducible repeat (first | refine blk_drewN ?_ _ | refine blk_drew ?_ | refine blk_alloc ?_ _)); exact BK107.out⟩, ⟨by (with_reducible repeat (first | refine blk_drewN ?_ _ | refine blk_drew ?_ | refine blk_alloc ?_ _)); exact BK120.out⟩, ⟨by repeat (first | (with_reducible first | exact HB.out | apply below_alloc | apply pw_below_drewN | apply below_drew1 | refine below_set ?_ GE107.out | refine below_set ?_ GE120.out) | exact HB.out)⟩⟩
                                              case round =>
                                                clear H'
                                                try clear c1
                                                try clear p1
                                                try clear q1
                                                try clear hx1
                                                try clear c2
                                                try clear p2
                                                try clear c3
                                                try clear c4
                                                try clear c5
                                                try clear c5b0
                                                try clear c5b1
                                                try clear c6
                                                try clear p6
                                                try clear c7
                                                try clear c9
                                                try clear c10
                                                try clear p10
                                                try clear q10
                                                try clear hx10
                                                try clear p11
                                                try clear q11
                                                try clear hx11
                                                try clear c14
                                                try clear c14b0
                                                try clear c14b1
                                                try clear c18
                                                try clear c21
                                                try clear c21b0
                                                try clear c21b1
                                                try clear c21b2
                                                try clear c23
                                                try clear c23b0
                                                try clear c24
                                                try clear c24b0
                                                try clear c27
                                                try clear c27b0
                                                try clear c28
                                                try clear c29
                                                try clear c29b0
                                                try clear c30
                                                try clear c30b0
                                                try clear c32
                                                try clear c32b0
                                                try clear c33
                                                try clear c33b0
                                                try clear c34
                                                try clear c34b0
                                                try clear c34b1
                                                try clear c34b2
                                                try clear c38
                                                try clear c38b0
                                                try clear c38b1
                                                try clear c39
                                                try clear c39b0
                                                try clear c39b1
                                                try clear c40
                                                try clear c40b0
                                                try clear c40b1
                                                try clear c40b2
                                                try clear c41
                                                try clear c41b0
                                                try clear c42
                                                try clear c42b0
                                                try clear c43
                                                try clear c43b0
                                                try clear c43b1
                                                try clear c43b2
                                                try clear c52
                                                try clear c52b0
                                                try clear c52b1
                                                try clear c53
                                                try clear c56
                                                try clear c58
                                                try clear hcz13_0
                                                try clear hcz13_1
                                                try clear hcz15_0
                                                try clear hcz15_1
                                                try clear hcz17_0
                                                try clear hcz17_1
                                                try clear hcz54_0
                                                try clear hcz54_1
                                                try clear hcz57_0
                                                try clear hcz57_1
                                                try clear hfz13_0
                                                try clear hfz13_1
                                                try clear hfz15_0
                                                try clear hfz15_1
                                                try clear hfz17_0
                                                try clear hfz17_1
                                                try clear hfz54_0
                                                try clear hfz54_1
                                                try clear hfz57_0
                                                try clear hfz57_1
                                                try clear hx109_0
                                                try clear hx109_1
                                                try clear hx109_2
                                                try clear hx113_0
                                                try clear hx114_0
                                                try clear p1
                                                try clear p10
                                                try clear p109
                                                try clear p11
                                                try clear p113
                                                try clear p114
                                                try clear p2
                                                try clear p6
                                                try clear q1
                                                try clear q10
                                                try clear q109
                                                try clear q11
                                                try clear q113
                                                try clear q114
                                                obtain ⟨x15_6, rfl, HA, HK6, HO_7, HO_13, BK107, BK120, HB⟩ := hrel
                                                cases gk with
                                                | zero => exact absurd HA.out (by simp [topiaristlaw01_LexNotes.l1])
                                                | succ k6 =>
                                                  have H := HA.out
                                                  clear HA
                                                  simp only [topiaristlaw01_LexNotes.l1] at H
                                                  by_cases c59 : x15_6 < (t102.length : Int)
                                                  · rw [if_pos c59] at H
                                                    have c59b0 : decide (x15_6 < (t102.length : Int)) = true := decide_eq_true c59
                                                    clear c59
                                                    by_cases c60 : 0 ≤ x15_6
                                                    · rw [if_pos c60] at H
                                                      have c60b0 : decide (0 ≤ x15_6) = true := decide_eq_true c60
                                                      clear c60
                                                      by_cases c61 : x15_6 ≥ ji22
                                                      · rw [if_pos c61] at H
                                                        have c61b0 : decide (ji22 ≤ x15_6) = true := decide_eq_true c61
                                                        clear c61
                                                        by_cases c62 : x15_6 < (t115.length : Int)
                                                        · rw [if_pos c62] at H
                                                          have c62b0 : decide (x15_6 < (t115.length : Int)) = true := decide_eq_true c62
                                                          clear c62
                                                          by_cases c63 : (!(((rd_T36 t115 x15_6).f0) == ((rd_T36 t102 x15_6).f0)) || (!((((rd_T36 t115 x15_6).f1).toList) == (((rd_T36 t102 x15_6).f1).toList)) || (!(((rd_T36 t115 x15_6).f2) == (wrap64 (((rd_T36 t102 x15_6).f2) + (x11_4.size : Int))))))) = true
                                                          · rw [if_pos c63] at H
                                                            have c63b0 : (!(((rd_T36 t115 x15_6).f0) == ((rd_T36 t102 x15_6).f0)) || (!((((rd_T36 t115 x15_6).f1).toList) == (((rd_T36 t102 x15_6).f1).toList)) || (!(((rd_T36 t115 x15_6).f2) == (wrap64 (((rd_T36 t102 x15_6).f2) + (x11_4.size : Int))))))) = true := c63
                                                            clear c63
                                                            obtain rfl := Option.some.inj H
                                                            have p122 : 0 ≤ (x15_6 : Int) := of_decide_eq_true (by first | (with_reducible assumption) | assumption)
                                                            have q122 : x15_6 < (t102.length : Int) := of_decide_eq_true (by first | (with_reducible assumption) | assumption)
                                                            obtain ⟨ad122, e122, hx122_0, hx122_1, hx122_2⟩ := at_T36 (Kd.R_reads' HO_7.out).2.2 x15_6 p122 q122
                                                            obtain rfl : ad109 = ad122 := (by injection e122)
                                                            replace p122 := eq_true p122
                                                            replace q122 := eq_true q122
                                                            try go_wp2_with (first | ((with_reducible refine gate_dst (N := 16) rfl ?_); (try (refine gate_guard (by rfl) ?_; dsimp only)); refine box_event ?hg (N := 16) ?hd (cs := #[.int .i64 0, .string (⟨#[]⟩ : ByteArray), .int .i64 0]) (t := 36) ?hr ?_; (case hd => rfl); (case hg => rfl); (case hr => first | (go_simp; done) | (go_simp; rfl)); intro gb123 hg w64 hbox hb; have n0_ := Aside0.mk (Kd.R_below (Kd.R_elderB (by (with_reducible repeat (first | apply Kd.R_alloc | apply Kd.R_drewN | apply Kd.R_drew)); exact HO_7.out) gb123 (Nat.le_of_eq hg.symm)) hb); have n1_ := Aside0.mk (Kd.R_below (Kd.R_elderB (by (with_reducible repeat (first | apply Kd.R_alloc | apply Kd.R_drewN | apply Kd.R_drew)); exact HO_13.out) gb123 (Nat.le_of_eq hg.symm)) hb); have n2_ := Aside0.mk (blk_below (g := gb107) (o := .cells #[.int .i64 t105, .int .i64 t106] 26 (0, 0)) (by (with_reducible repeat (first | refine blk_drewN ?_ _ | refine blk_drew ?_ | refine blk_alloc ?_ _)); exact BK107.out) hb); have n3_ := Aside0.mk (blk_below (g := gb120) (o := .cells #[.int .i64 t118, .int .i64 t119] 26 (0, 0)) (by (with_reducible repeat (first | refine blk_drewN ?_ _ | refine blk_drew ?_ | refine blk_alloc ?_ _)); exact BK120.out) hb); have n4_ := Aside0.mk (below_step (by repeat (first | (with_reducible first | exact HB.out | apply below_alloc | apply pw_below_drewN | apply below_drew1 | refine below_set ?_ GE107.out | refine below_set ?_ GE120.out) | exact HB.out)) hb); have n5_ := Aside0.mk (hbox); have n6_ := Aside0.mk ((by rw [hg]; exact (below_size (by repeat (first | (with_reducible first | exact HB.out | apply below_alloc | apply pw_below_drewN | apply below_drew1 | refine below_set ?_ GE107.out | refine below_set ?_ GE120.out) | exact HB.out))) : w.heap.size ≤ gb123)); have n7_ := Aside0.mk ((by rw [hg]; exact (below_size (by repeat (first | (with_reducible first | exact HB.out | apply below_alloc | apply pw_below_drewN | apply below_drew1 | refine below_set ?_ GE107.out | refine below_set ?_ GE120.out) | exact HB.out))) : w.heap.size ≤ gb123)); have n8_ := Aside0.mk ((by rw [hg]; exact Nat.ne_of_lt (blk_lt (g := gb107) (o := .cells #[.int .i64 t105, .int .i64 t106] 26 (0, 0)) (by (with_reducible repeat (first | refine blk_drewN ?_ _ | refine blk_drew ?_ | refine blk_alloc ?_ _)); exact BK107.out)) : gb107 ≠ gb123)); have n9_ := Aside0.mk ((by rw [hg]; exact Nat.ne_of_gt (blk_lt (g := gb107) (o := .cells #[.int .i64 t105, .int .i64 t106] 26 (0, 0)) (by (with_reducible repeat (first | refine blk_drewN ?_ _ | refine blk_drew ?_ | refine blk_alloc ?_ _)); exact BK107.out)) : gb123 ≠ gb107)); have n10_ := Aside0.mk ((by rw [hg]; exact Nat.ne_of_lt (blk_lt (g := gb120) (o := .cells #[.int .i64 t118, .int .i64 t119] 26 (0, 0)) (by (with_reducible repeat (first | refine blk_drewN ?_ _ | refine blk_drew ?_ | refine blk_alloc ?_ _)); exact BK120.out)) : gb120 ≠ gb123)); have n11_ := Aside0.mk ((by rw [hg]; exact Nat.ne_of_gt (blk_lt (g := gb120) (o := .cells #[.int .i64 t118, .int .i64 t119] 26 (0, 0)) (by (with_reducible repeat (first | refine blk_drewN ?_ _ | refine blk_drew ?_ | refine blk_alloc ?_ _)); exact BK120.out)) : gb123 ≠ gb120)); clear HO_7; clear HO_13; clear BK107; clear BK120; clear HB; have HO_7 := n0_; have HO_13 := n1_; have BK107 := n2_; have BK120 := n3_; have HB := n4_; have BK123 := n5_; have GW123 := n6_; have GE123 := n7_; have NB107_123 := n8_; have NB123_107 := n9_; have NB120_123 := n10_; have NB123_120 := n11_; clear n0_ n1_ n2_ n3_ n4_ n5_ n6_ n7_ n8_ n9_ n10_ n11_; clear hb hbox hg; have hnb65 := NB123_107.out; have hnc65 := NB107_123.out; have hnb66 := NB123_120.out; have hnc66 := NB120_123.out; have hcz67_0 : w64.cell? ⟨gb123, 0, none⟩ = some (.int .i64 0) := (blk_cell BK123.out 0).trans rfl; have hcz67_1 : w64.cell? ⟨gb123, 1, none⟩ = some (.string (⟨#[]⟩ : ByteArray)) := (blk_cell BK123.out 1).trans rfl; have hcz67_2 : w64.cell? ⟨gb123, 2, none⟩ = some (.int .i64 0) := (blk_cell BK123.out 2).trans rfl; have hfz67_0 := blk_frozen BK123.out 0; have hfz67_1 := blk_frozen BK123.out 1; have hfz67_2 := blk_frozen BK123.out 2))
                                                            have n0_ : Aside0 (Kd.R k36 36 ((((w64.setCell ⟨gb123, 0, none⟩ (.int .i64 ((rd_T36 t102 x15_6).f0))).setCell ⟨gb123, 1, none⟩ (.string ((rd_T36 t102 x15_6).f1))).setCell ⟨gb123, 2, none⟩ (.int .i64 ((rd_T36 t102 x15_6).f2))).setCell ⟨gb123, 2, none⟩ (.int .i64 (wrap64 (((rd_T36 t102 x15_6).f2) + (x11_4.size : Int))))) w.heap.size (fun k_ => some k_ ≠ (v116 : Value).ownBlock ∧ k_ ≠ gb123) (.slice (some ad109) t102.length co26) t102) := ⟨by (with_reducible repeat (first | apply Kd.R_alloc | apply Kd.R_drewN | apply Kd.R_drew)); exact Kd.R_mono (Kd.R_far (p := ⟨gb123, 2, none⟩) (Kd.R_far (p := ⟨gb123, 2, none⟩) (Kd.R_far (p := ⟨gb123, 1, none⟩) (Kd.R_far (p := ⟨gb123, 0, none⟩) (Kd.R_mono HO_7.out (fun k_ hk => (⟨hk, hk.2⟩ : _ ∧ k_ ≠ gb123))) (fun _ hk => hk.2) (.int .i64 ((rd_T36 t102 x15_6).f0))) (fun _ hk => hk.2) (.string ((rd_T36 t102 x15_6).f1))) (fun _ hk => hk.2) (.int .i64 ((rd_T36 t102 x15_6).f2))) (fun _ hk => hk.2) (.int .i64 (wrap64 (((rd_T36 t102 x15_6).f2) + (x11_4.size : Int))))) (fun _ hk => ⟨hk.1.1, hk.1.2⟩)⟩
                                                            have n1_ : Aside0 (Kd.R k36 36 ((((w64.setCell ⟨gb123, 0, none⟩ (.int .i64 ((rd_T36 t102 x15_6).f0))).setCell ⟨gb123, 1, none⟩ (.string ((rd_T36 t102 x15_6).f1))).setCell ⟨gb123, 2, none⟩ (.int .i64 ((rd_T36 t102 x15_6).f2))).setCell ⟨gb123, 2, none⟩ (.int .i64 (wrap64 (((rd_T36 t102 x15_6).f2) + (x11_4.size : Int))))) w.heap.size (fun k_ => some k_ ≠ (.slice (some ad109) t102.length co26 : Value).ownBlock ∧ k_ ≠ gb123) v116 t115) := ⟨by (with_reducible repeat (first | apply Kd.R_alloc | apply Kd.R_drewN | apply Kd.R_drew)); exact Kd.R_mono (Kd.R_far (p := ⟨gb123, 2, none⟩) (Kd.R_far (p := ⟨gb123, 2, none⟩) (Kd.R_far (p := ⟨gb123, 1, none⟩) (Kd.R_far (p := ⟨gb123, 0, none⟩) (Kd.R_mono HO_13.out (fun k_ hk => (⟨hk, hk.2⟩ : _ ∧ k_ ≠ gb123))) (fun _ hk => hk.2) (.int .i64 ((rd_T36 t102 x15_6).f0))) (fun _ hk => hk.2) (.string ((rd_T36 t102 x15_6).f1))) (fun _ hk => hk.2) (.int .i64 ((rd_T36 t102 x15_6).f2))) (fun _ hk => hk.2) (.int .i64 (wrap64 (((rd_T36 t102 x15_6).f2) + (x11_4.size : Int))))) (fun _ hk => ⟨hk.1.1, hk.1.2⟩)⟩
                                                            have n2_ : Aside0 (((((w64.setCell ⟨gb123, 0, none⟩ (.int .i64 ((rd_T36 t102 x15_6).f0))).setCell ⟨gb123, 1, none⟩ (.string ((rd_T36 t102 x15_6).f1))).setCell ⟨gb123, 2, none⟩ (.int .i64 ((rd_T36 t102 x15_6).f2))).setCell ⟨gb123, 2, none⟩ (.int .i64 (wrap64 (((rd_T36 t102 x15_6).f2) + (x11_4.size : Int))))).heap[gb107]? = some (.cells #[.int .i64 t105, .int .i64 t106] 26 (0, 0))) := ⟨by (with_reducible repeat (first | refine blk_drewN ?_ _ | refine blk_drew ?_ | refine blk_alloc ?_ _)); refine blk_far ?_ NB107_123.out _; (with_reducible repeat (first | refine blk_drewN ?_ _ | refine blk_drew ?_ | refine blk_alloc ?_ _)); refine blk_far ?_ NB107_123.out _; (with_reducible repeat (first | refine blk_drewN ?_ _ | refine blk_drew ?_ | refine blk_alloc ?_ _)); refine blk_far ?_ NB107_123.out _; (with_reducible repeat (first | refine blk_drewN ?_ _ | refine blk_drew ?_ | refine blk_alloc ?_ _)); refine blk_far ?_ NB107_123.out _; (with_reducible repeat (first | refine blk_drewN ?_ _ | refine blk_drew ?_ | refine blk_alloc ?_ _)); exact BK107.out⟩
                                                            have n3_ : Aside0 (((((w64.setCell ⟨gb123, 0, none⟩ (.int .i64 ((rd_T36 t102 x15_6).f0))).setCell ⟨gb123, 1, none⟩ (.string ((rd_T36 t102 x15_6).f1))).setCell ⟨gb123, 2, none⟩ (.int .i64 ((rd_T36 t102 x15_6).f2))).setCell ⟨gb123, 2, none⟩ (.int .i64 (wrap64 (((rd_T36 t102 x15_6).f2) + (x11_4.size : Int))))).heap[gb120]? = some (.cells #[.int .i64 t118, .int .i64 t119] 26 (0, 0))) := ⟨by (with_reducible repeat (first | refine blk_drewN ?_ _ | refine blk_drew ?_ | refine blk_alloc ?_ _)); refine blk_far ?_ NB120_123.out _; (with_reducible repeat (first | refine blk_drewN ?_ _ | refine blk_drew ?_ | refine blk_alloc ?_ _)); refine blk_far ?_ NB120_123.out _; (with_reducible repeat (first | refine blk_drewN ?_ _ | refine blk_drew ?_ | refine blk_alloc ?_ _)); refine blk_far ?_ NB120_123.out _; (with_reducible repeat (first | refine blk_drewN ?_ _ | refine blk_drew ?_ | refine blk_alloc ?_ _)); refine blk_far ?_ NB120_123.out _; (with_reducible repeat (first | refine blk_drewN ?_ _ | refine blk_drew ?_ | refine blk_alloc ?_ _)); exact BK120.out⟩
                                                            have n4_ : Aside0 (((((w64.setCell ⟨gb123, 0, none⟩ (.int .i64 ((rd_T36 t102 x15_6).f0))).setCell ⟨gb123, 1, none⟩ (.string ((rd_T36 t102 x15_6).f1))).setCell ⟨gb123, 2, none⟩ (.int .i64 ((rd_T36 t102 x15_6).f2))).setCell ⟨gb123, 2, none⟩ (.int .i64 (wrap64 (((rd_T36 t102 x15_6).f2) + (x11_4.size : Int))))).heap[gb123]? = some (.cells #[.int .i64 ((rd_T36 t102 x15_6).f0), .string ((rd_T36 t102 x15_6).f1), .int .i64 (wrap64 (((rd_T36 t102 x15_6).f2) + (x11_4.size : Int)))] 36 (0, 0))) := ⟨by (with_reducible repeat (first | refine blk_drewN ?_ _ | refine blk_drew ?_ | refine blk_alloc ?_ _)); refine blk_put (cs := #[.int .i64 ((rd_T36 t102 x15_6).f0), .string ((rd_T36 t102 x15_6).f1), .int .i64 ((rd_T36 t102 x15_6).f2)]) ?_ 2 _ rfl; (with_reducible repeat (first | refine blk_drewN ?_ _ | refine blk_drew ?_ | refine blk_alloc ?_ _)); refine blk_put (cs := #[.int .i64 ((rd_T36 t102 x15_6).f0), .string ((rd_T36 t102 x15_6).f1), .int .i64 0]) ?_ 2 _ rfl; (with_reducible repeat (first | refine blk_drewN ?_ _ | refine blk_drew ?_ | refine blk_alloc ?_ _)); refine blk_put (cs := #[.int .i64 ((rd_T36 t102 x15_6).f0), .string (⟨#[]⟩ : ByteArray), .int .i64 0]) ?_ 1 _ rfl; (with_reducible repeat (first | refine blk_drewN ?_ _ | refine blk_drew ?_ | refine blk_alloc ?_ _)); refine blk_put (cs := #[.int .i64 0, .string (⟨#[]⟩ : ByteArray), .int .i64 0]) ?_ 0 _ rfl; (with_reducible repeat (first | refine blk_drewN ?_ _ | refine blk_drew ?_ | refine blk_alloc ?_ _)); exact BK123.out⟩
                                                            have n5_ : Aside0 (Below w.heap.size w ((((w64.setCell ⟨gb123, 0, none⟩ (.int .i64 ((rd_T36 t102 x15_6).f0))).setCell ⟨gb123, 1, none⟩ (.string ((rd_T36 t102 x15_6).f1))).setCell ⟨gb123, 2, none⟩ (.int .i64 ((rd_T36 t102 x15_6).f2))).setCell ⟨gb123, 2, none⟩ (.int .i64 (wrap64 (((rd_T36 t102 x15_6).f2) + (x11_4.size : Int)))))) := ⟨by repeat (first | (with_reducible first | exact HB.out | apply below_alloc | apply pw_below_drewN | apply below_drew1 | refine below_set ?_ GE107.out | refine below_set ?_ GE120.out | refine below_set ?_ GE123.out) | exact HB.out)⟩
                                                            (try clear HO_7)
                                                            (try clear HO_13)
                                                            (try clear BK107)
                                                            (try clear BK120)
                                                            (try clear BK123)
                                                            (try clear HB)
                                                            generalize ((((w64.setCell ⟨gb123, 0, none⟩ (.int .i64 ((rd_T36 t102 x15_6).f0))).setCell ⟨gb123, 1, none⟩ (.string ((rd_T36 t102 x15_6).f1))).setCell ⟨gb123, 2, none⟩ (.int .i64 ((rd_T36 t102 x15_6).f2))).setCell ⟨gb123, 2, none⟩ (.int .i64 (wrap64 (((rd_T36 t102 x15_6).f2) + (x11_4.size : Int))))) = w68 at n0_ n1_ n2_ n3_ n4_ n5_ ⊢
                                                            have HO_7 := n0_
                                                            have HO_13 := n1_
                                                            have BK107 := n2_
                                                            have BK120 := n3_
                                                            have BK123 := n4_
                                                            have HB := n5_
                                                            clear n0_ n1_ n2_ n3_ n4_ n5_
                                                            have n0_ := Aside0.mk (Kd.R_drew HO_7.out)
                                                            have n1_ := Aside0.mk (Kd.R_drew HO_13.out)
                                                            have n2_ := Aside0.mk (blk_drew BK107.out)
                                                            have n3_ := Aside0.mk (blk_drew BK120.out)
                                                            have n4_ := Aside0.mk (blk_drew BK123.out)
                                                            have n5_ := Aside0.mk (below_drew1 HB.out)
                                                            clear HO_7
                                                            clear HO_13
                                                            clear BK107
                                                            clear BK120
                                                            clear BK123
                                                            clear HB
                                                            have HO_7 := n0_
                                                            have HO_13 := n1_
                                                            have BK107 := n2_
                                                            have BK120 := n3_
                                                            have BK123 := n4_
                                                            have HB := n5_
                                                            clear n0_ n1_ n2_ n3_ n4_ n5_
                                                            obtain ⟨Ao70, co70, eo70⟩ := Kd.R_slice HO_13.out
                                                            (first | subst eo70 | (injection eo70 with f1_ f2_ f3_; have f4_ := f1_.symm; have f5_ := f3_.symm; clear f1_ f2_ f3_; subst f4_; subst f5_))
                                                            have p124 : 0 ≤ (x15_6 : Int) := of_decide_eq_true (by first | (with_reducible assumption) | assumption)
                                                            have q124 : x15_6 < (t115.length : Int) := of_decide_eq_true (by first | (with_reducible assumption) | assumption)
                                                            obtain ⟨ad124, e124, hx124_0, hx124_1, hx124_2⟩ := at_T36 (Kd.R_reads' HO_13.out).2.2 x15_6 p124 q124
                                                            cases e124
                                                            replace p124 := eq_true p124
                                                            replace q124 := eq_true q124
                                                            refine start_ (n := 6) (S := fun w' => w'.cell? ⟨gb123, 0, none⟩ = some (.int .i64 ((rd_T36 t102 x15_6).f0)) ∧ w'.cell? ⟨gb123, 1, none⟩ = some (.string ((rd_T36 t102 x15_6).f1)) ∧ w'.cell? ⟨gb123, 2, none⟩ = some (.int .i64 (wrap64 (((rd_T36 t102 x15_6).f2) + (x11_4.size : Int)))) ∧ w'.cell? (ad124.add ((x15_6).toNat * 3)) = some (.int .i64 ((rd_T36 t115 x15_6).f0)) ∧ w'.cell? ⟨(ad124.add ((x15_6).toNat * 3)).block, (ad124.add ((x15_6).toNat * 3)).off + 1, none⟩ = some (.string ((rd_T36 t115 x15_6).f1)) ∧ w'.cell? ⟨(ad124.add ((x15_6).toNat * 3)).block, (ad124.add ((x15_6).toNat * 3)).off + 2, none⟩ = some (.int .i64 ((rd_T36 t115 x15_6).f2))) (ds := []) #[false, false, false, false, false, false] (by kernel_rfl) rfl rfl ⟨(blk_cell BK123.out 0).trans rfl, (blk_cell BK123.out 1).trans rfl, (blk_cell BK123.out 2).trans rfl, hx124_0, hx124_1, hx124_2⟩ (fun hHeld => ?_)
                                                            generalize w68.drew = w69 at HO_7 HO_13 BK107 BK120 BK123 HB hx124_0 hx124_1 hx124_2 hHeld ⊢
                                                            refine pure_ (i := 0) (N := some 116) (v := ?_) (a' := ?_) #[true, false, false, false, false, false] rfl rfl (by kernel_rfl) (fun _ _ _ h => h) (Or.inl ⟨by rfl, ?_⟩) ?_ ?_
                                                            rotate_left
                                                            · intro w'
                                                              go_simp
                                                              with_reducible rfl
                                                            rotate_left
                                                            · simp only [Act.put, List.setIfInBounds_toArray, List.set_cons_zero, List.set_cons_succ, i64_w, i32_w]
                                                              rfl
                                                            refine pure_ (i := 1) (N := some 117) (v := ?_) (a' := ?_) #[true, true, false, false, false, false] rfl rfl (by kernel_rfl) (fun _ _ _ h => h) (Or.inl ⟨by rfl, ?_⟩) ?_ ?_
                                                            rotate_left
                                                            · intro w'
                                                              go_simp
                                                              with_reducible rfl
                                                            rotate_left
                                                            · simp only [Act.put, List.setIfInBounds_toArray, List.set_cons_zero, List.set_cons_succ, i64_w, i32_w]
                                                              rfl
                                                            refine pure_ (i := 2) (N := some 118) (v := ?_) (a' := ?_) #[true, true, true, false, false, false] rfl rfl (by kernel_rfl) (fun _ _ _ h => h) (Or.inl ⟨by rfl, ?_⟩) ?_ ?_
                                                            rotate_left
                                                            · intro w'
                                                              go_simp
                                                              with_reducible rfl
                                                            rotate_left
                                                            · simp only [Act.put, List.setIfInBounds_toArray, List.set_cons_zero, List.set_cons_succ, i64_w, i32_w]
                                                              rfl
                                                            refine take_ (i := 3) (N := some 119) (v := ?_) (a' := ?_) #[true, true, true, true, false, false] rfl rfl (by kernel_rfl) (fun _ _ _ h => h) (Or.inl ⟨by rfl, ?_⟩) hHeld ?_ ?_
                                                            rotate_left
                                                            · rintro w' ⟨s0, s1, s2, s3, s4, s5⟩
                                                              go_simp
                                                              with_reducible rfl
                                                            rotate_left
                                                            · simp only [Act.put, List.setIfInBounds_toArray, List.set_cons_zero, List.set_cons_succ, i64_w, i32_w]
                                                              rfl
                                                            refine take_ (i := 4) (N := some 120) (v := ?_) (a' := ?_) #[true, true, true, true, true, false] rfl rfl (by kernel_rfl) (fun _ _ _ h => h) (Or.inl ⟨by rfl, ?_⟩) hHeld ?_ ?_
                                                            rotate_left
                                                            · rintro w' ⟨s0, s1, s2, s3, s4, s5⟩
                                                              go_simp
                                                              with_reducible rfl
                                                            rotate_left
                                                            · simp only [Act.put, List.setIfInBounds_toArray, List.set_cons_zero, List.set_cons_succ, i64_w, i32_w]
                                                              rfl
                                                            refine pure_ (i := 5) (N := some 121) (v := ?_) (a' := ?_) #[true, true, true, true, true, true] rfl rfl (by kernel_rfl) (fun _ _ _ h => h) (Or.inl ⟨by rfl, ?_⟩) ?_ ?_
                                                            rotate_left
                                                            · intro w'
                                                              go_simp
                                                              with_reducible rfl
                                                            rotate_left
                                                            · simp only [Act.put, List.setIfInBounds_toArray, List.set_cons_zero, List.set_cons_succ, i64_w, i32_w]
                                                              rfl
                                                            refine done_ (by kernel_rfl) ?_
                                                            try go_wp2
                                                            go_ret
                                                            exact ⟨by first | rfl | (simp [errW_none, errW_some] <;> rfl) | (simp only [← hji22]; first | rfl | (simp [errW_none, errW_some] <;> rfl)) | (simp [*, errW_none, errW_some] <;> rfl), by repeat (first | (with_reducible first | exact HB.out | apply below_alloc | apply pw_below_drewN | apply below_drew1 | refine below_set ?_ GE107.out | refine below_set ?_ GE120.out | refine below_set ?_ GE123.out) | exact HB.out)⟩
                                                          · rw [if_neg c63] at H
                                                            have c63b0 : (!(((rd_T36 t115 x15_6).f0) == ((rd_T36 t102 x15_6).f0)) || (!((((rd_T36 t115 x15_6).f1).toList) == (((rd_T36 t102 x15_6).f1).toList)) || (!(((rd_T36 t115 x15_6).f2) == (wrap64 (((rd_T36 t102 x15_6).f2) + (x11_4.size : Int))))))) = false := by simpa using c63
                                                            clear c63
                                                            have H' := Aside0.mk H
                                                            clear H
                                                            have p122 : 0 ≤ (x15_6 : Int) := of_decide_eq_true (by first | (with_reducible assumption) | assumption)
                                                            have q122 : x15_6 < (t102.length : Int) := of_decide_eq_true (by first | (with_reducible assumption) | assumption)
                                                            obtain ⟨ad122, e122, hx122_0, hx122_1, hx122_2⟩ := at_T36 (Kd.R_reads' HO_7.out).2.2 x15_6 p122 q122
                                                            obtain rfl : ad109 = ad122 := (by injection e122)
                                                            replace p122 := eq_true p122
                                                            replace q122 := eq_true q122
                                                            try go_wp2_with (first | ((with_reducible refine gate_dst (N := 16) rfl ?_); (try (refine gate_guard (by rfl) ?_; dsimp only)); refine box_event ?hg (N := 16) ?hd (cs := #[.int .i64 0, .string (⟨#[]⟩ : ByteArray), .int .i64 0]) (t := 36) ?hr ?_; (case hd => rfl); (case hg => rfl); (case hr => first | (go_simp; done) | (go_simp; rfl)); intro gb123 hg w71 hbox hb; have n0_ := Aside0.mk (Kd.R_below (Kd.R_elderB (by (with_reducible repeat (first | apply Kd.R_alloc | apply Kd.R_drewN | apply Kd.R_drew)); exact HO_7.out) gb123 (Nat.le_of_eq hg.symm)) hb); have n1_ := Aside0.mk (Kd.R_below (Kd.R_elderB (by (with_reducible repeat (first | apply Kd.R_alloc | apply Kd.R_drewN | apply Kd.R_drew)); exact HO_13.out) gb123 (Nat.le_of_eq hg.symm)) hb); have n2_ := Aside0.mk (blk_below (g := gb107) (o := .cells #[.int .i64 t105, .int .i64 t106] 26 (0, 0)) (by (with_reducible repeat (first | refine blk_drewN ?_ _ | refine blk_drew ?_ | refine blk_alloc ?_ _)); exact BK107.out) hb); have n3_ := Aside0.mk (blk_below (g := gb120) (o := .cells #[.int .i64 t118, .int .i64 t119] 26 (0, 0)) (by (with_reducible repeat (first | refine blk_drewN ?_ _ | refine blk_drew ?_ | refine blk_alloc ?_ _)); exact BK120.out) hb); have n4_ := Aside0.mk (below_step (by repeat (first | (with_reducible first | exact HB.out | apply below_alloc | apply pw_below_drewN | apply below_drew1 | refine below_set ?_ GE107.out | refine below_set ?_ GE120.out) | exact HB.out)) hb); have n5_ := Aside0.mk (hbox); have n6_ := Aside0.mk ((by rw [hg]; exact (below_size (by repeat (first | (with_reducible first | exact HB.out | apply below_alloc | apply pw_below_drewN | apply below_drew1 | refine below_set ?_ GE107.out | refine below_set ?_ GE120.out) | exact HB.out))) : w.heap.size ≤ gb123)); have n7_ := Aside0.mk ((by rw [hg]; exact (below_size (by repeat (first | (with_reducible first | exact HB.out | apply below_alloc | apply pw_below_drewN | apply below_drew1 | refine below_set ?_ GE107.out | refine below_set ?_ GE120.out) | exact HB.out))) : w.heap.size ≤ gb123)); have n8_ := Aside0.mk ((by rw [hg]; exact Nat.ne_of_lt (blk_lt (g := gb107) (o := .cells #[.int .i64 t105, .int .i64 t106] 26 (0, 0)) (by (with_reducible repeat (first | refine blk_drewN ?_ _ | refine blk_drew ?_ | refine blk_alloc ?_ _)); exact BK107.out)) : gb107 ≠ gb123)); have n9_ := Aside0.mk ((by rw [hg]; exact Nat.ne_of_gt (blk_lt (g := gb107) (o := .cells #[.int .i64 t105, .int .i64 t106] 26 (0, 0)) (by (with_reducible repeat (first | refine blk_drewN ?_ _ | refine blk_drew ?_ | refine blk_alloc ?_ _)); exact BK107.out)) : gb123 ≠ gb107)); have n10_ := Aside0.mk ((by rw [hg]; exact Nat.ne_of_lt (blk_lt (g := gb120) (o := .cells #[.int .i64 t118, .int .i64 t119] 26 (0, 0)) (by (with_reducible repeat (first | refine blk_drewN ?_ _ | refine blk_drew ?_ | refine blk_alloc ?_ _)); exact BK120.out)) : gb120 ≠ gb123)); have n11_ := Aside0.mk ((by rw [hg]; exact Nat.ne_of_gt (blk_lt (g := gb120) (o := .cells #[.int .i64 t118, .int .i64 t119] 26 (0, 0)) (by (with_reducible repeat (first | refine blk_drewN ?_ _ | refine blk_drew ?_ | refine blk_alloc ?_ _)); exact BK120.out)) : gb123 ≠ gb120)); clear HO_7; clear HO_13; clear BK107; clear BK120; clear HB; have HO_7 := n0_; have HO_13 := n1_; have BK107 := n2_; have BK120 := n3_; have HB := n4_; have BK123 := n5_; have GW123 := n6_; have GE123 := n7_; have NB107_123 := n8_; have NB123_107 := n9_; have NB120_123 := n10_; have NB123_120 := n11_; clear n0_ n1_ n2_ n3_ n4_ n5_ n6_ n7_ n8_ n9_ n10_ n11_; clear hb hbox hg; have hnb72 := NB123_107.out; have hnc72 := NB107_123.out; have hnb73 := NB123_120.out; have hnc73 := NB120_123.out; have hcz74_0 : w71.cell? ⟨gb123, 0, none⟩ = some (.int .i64 0) := (blk_cell BK123.out 0).trans rfl; have hcz74_1 : w71.cell? ⟨gb123, 1, none⟩ = some (.string (⟨#[]⟩ : ByteArray)) := (blk_cell BK123.out 1).trans rfl; have hcz74_2 : w71.cell? ⟨gb123, 2, none⟩ = some (.int .i64 0) := (blk_cell BK123.out 2).trans rfl; have hfz74_0 := blk_frozen BK123.out 0; have hfz74_1 := blk_frozen BK123.out 1; have hfz74_2 := blk_frozen BK123.out 2))
                                                            have n0_ : Aside0 (Kd.R k36 36 ((((w71.setCell ⟨gb123, 0, none⟩ (.int .i64 ((rd_T36 t102 x15_6).f0))).setCell ⟨gb123, 1, none⟩ (.string ((rd_T36 t102 x15_6).f1))).setCell ⟨gb123, 2, none⟩ (.int .i64 ((rd_T36 t102 x15_6).f2))).setCell ⟨gb123, 2, none⟩ (.int .i64 (wrap64 (((rd_T36 t102 x15_6).f2) + (x11_4.size : Int))))) w.heap.size (fun k_ => some k_ ≠ (v116 : Value).ownBlock ∧ k_ ≠ gb123) (.slice (some ad109) t102.length co26) t102) := ⟨by (with_reducible repeat (first | apply Kd.R_alloc | apply Kd.R_drewN | apply Kd.R_drew)); exact Kd.R_mono (Kd.R_far (p := ⟨gb123, 2, none⟩) (Kd.R_far (p := ⟨gb123, 2, none⟩) (Kd.R_far (p := ⟨gb123, 1, none⟩) (Kd.R_far (p := ⟨gb123, 0, none⟩) (Kd.R_mono HO_7.out (fun k_ hk => (⟨hk, hk.2⟩ : _ ∧ k_ ≠ gb123))) (fun _ hk => hk.2) (.int .i64 ((rd_T36 t102 x15_6).f0))) (fun _ hk => hk.2) (.string ((rd_T36 t102 x15_6).f1))) (fun _ hk => hk.2) (.int .i64 ((rd_T36 t102 x15_6).f2))) (fun _ hk => hk.2) (.int .i64 (wrap64 (((rd_T36 t102 x15_6).f2) + (x11_4.size : Int))))) (fun _ hk => ⟨hk.1.1, hk.1.2⟩)⟩
                                                            have n1_ : Aside0 (Kd.R k36 36 ((((w71.setCell ⟨gb123, 0, none⟩ (.int .i64 ((rd_T36 t102 x15_6).f0))).setCell ⟨gb123, 1, none⟩ (.string ((rd_T36 t102 x15_6).f1))).setCell ⟨gb123, 2, none⟩ (.int .i64 ((rd_T36 t102 x15_6).f2))).setCell ⟨gb123, 2, none⟩ (.int .i64 (wrap64 (((rd_T36 t102 x15_6).f2) + (x11_4.size : Int))))) w.heap.size (fun k_ => some k_ ≠ (.slice (some ad109) t102.length co26 : Value).ownBlock ∧ k_ ≠ gb123) v116 t115) := ⟨by (with_reducible repeat (first | apply Kd.R_alloc | apply Kd.R_drewN | apply Kd.R_drew)); exact Kd.R_mono (Kd.R_far (p := ⟨gb123, 2, none⟩) (Kd.R_far (p := ⟨gb123, 2, none⟩) (Kd.R_far (p := ⟨gb123, 1, none⟩) (Kd.R_far (p := ⟨gb123, 0, none⟩) (Kd.R_mono HO_13.out (fun k_ hk => (⟨hk, hk.2⟩ : _ ∧ k_ ≠ gb123))) (fun _ hk => hk.2) (.int .i64 ((rd_T36 t102 x15_6).f0))) (fun _ hk => hk.2) (.string ((rd_T36 t102 x15_6).f1))) (fun _ hk => hk.2) (.int .i64 ((rd_T36 t102 x15_6).f2))) (fun _ hk => hk.2) (.int .i64 (wrap64 (((rd_T36 t102 x15_6).f2) + (x11_4.size : Int))))) (fun _ hk => ⟨hk.1.1, hk.1.2⟩)⟩
                                                            have n2_ : Aside0 (((((w71.setCell ⟨gb123, 0, none⟩ (.int .i64 ((rd_T36 t102 x15_6).f0))).setCell ⟨gb123, 1, none⟩ (.string ((rd_T36 t102 x15_6).f1))).setCell ⟨gb123, 2, none⟩ (.int .i64 ((rd_T36 t102 x15_6).f2))).setCell ⟨gb123, 2, none⟩ (.int .i64 (wrap64 (((rd_T36 t102 x15_6).f2) + (x11_4.size : Int))))).heap[gb107]? = some (.cells #[.int .i64 t105, .int .i64 t106] 26 (0, 0))) := ⟨by (with_reducible repeat (first | refine blk_drewN ?_ _ | refine blk_drew ?_ | refine blk_alloc ?_ _)); refine blk_far ?_ NB107_123.out _; (with_reducible repeat (first | refine blk_drewN ?_ _ | refine blk_drew ?_ | refine blk_alloc ?_ _)); refine blk_far ?_ NB107_123.out _; (with_reducible repeat (first | refine blk_drewN ?_ _ | refine blk_drew ?_ | refine blk_alloc ?_ _)); refine blk_far ?_ NB107_123.out _; (with_reducible repeat (first | refine blk_drewN ?_ _ | refine blk_drew ?_ | refine blk_alloc ?_ _)); refine blk_far ?_ NB107_123.out _; (with_reducible repeat (first | refine blk_drewN ?_ _ | refine blk_drew ?_ | refine blk_alloc ?_ _)); exact BK107.out⟩
                                                            have n3_ : Aside0 (((((w71.setCell ⟨gb123, 0, none⟩ (.int .i64 ((rd_T36 t102 x15_6).f0))).setCell ⟨gb123, 1, none⟩ (.string ((rd_T36 t102 x15_6).f1))).setCell ⟨gb123, 2, none⟩ (.int .i64 ((rd_T36 t102 x15_6).f2))).setCell ⟨gb123, 2, none⟩ (.int .i64 (wrap64 (((rd_T36 t102 x15_6).f2) + (x11_4.size : Int))))).heap[gb120]? = some (.cells #[.int .i64 t118, .int .i64 t119] 26 (0, 0))) := ⟨by (with_reducible repeat (first | refine blk_drewN ?_ _ | refine blk_drew ?_ | refine blk_alloc ?_ _)); refine blk_far ?_ NB120_123.out _; (with_reducible repeat (first | refine blk_drewN ?_ _ | refine blk_drew ?_ | refine blk_alloc ?_ _)); refine blk_far ?_ NB120_123.out _; (with_reducible repeat (first | refine blk_drewN ?_ _ | refine blk_drew ?_ | refine blk_alloc ?_ _)); refine blk_far ?_ NB120_123.out _; (with_reducible repeat (first | refine blk_drewN ?_ _ | refine blk_drew ?_ | refine blk_alloc ?_ _)); refine blk_far ?_ NB120_123.out _; (with_reducible repeat (first | refine blk_drewN ?_ _ | refine blk_drew ?_ | refine blk_alloc ?_ _)); exact BK120.out⟩
                                                            have n4_ : Aside0 (((((w71.setCell ⟨gb123, 0, none⟩ (.int .i64 ((rd_T36 t102 x15_6).f0))).setCell ⟨gb123, 1, none⟩ (.string ((rd_T36 t102 x15_6).f1))).setCell ⟨gb123, 2, none⟩ (.int .i64 ((rd_T36 t102 x15_6).f2))).setCell ⟨gb123, 2, none⟩ (.int .i64 (wrap64 (((rd_T36 t102 x15_6).f2) + (x11_4.size : Int))))).heap[gb123]? = some (.cells #[.int .i64 ((rd_T36 t102 x15_6).f0), .string ((rd_T36 t102 x15_6).f1), .int .i64 (wrap64 (((rd_T36 t102 x15_6).f2) + (x11_4.size : Int)))] 36 (0, 0))) := ⟨by (with_reducible repeat (first | refine blk_drewN ?_ _ | refine blk_drew ?_ | refine blk_alloc ?_ _)); refine blk_put (cs := #[.int .i64 ((rd_T36 t102 x15_6).f0), .string ((rd_T36 t102 x15_6).f1), .int .i64 ((rd_T36 t102 x15_6).f2)]) ?_ 2 _ rfl; (with_reducible repeat (first | refine blk_drewN ?_ _ | refine blk_drew ?_ | refine blk_alloc ?_ _)); refine blk_put (cs := #[.int .i64 ((rd_T36 t102 x15_6).f0), .string ((rd_T36 t102 x15_6).f1), .int .i64 0]) ?_ 2 _ rfl; (with_reducible repeat (first | refine blk_drewN ?_ _ | refine blk_drew ?_ | refine blk_alloc ?_ _)); refine blk_put (cs := #[.int .i64 ((rd_T36 t102 x15_6).f0), .string (⟨#[]⟩ : ByteArray), .int .i64 0]) ?_ 1 _ rfl; (with_reducible repeat (first | refine blk_drewN ?_ _ | refine blk_drew ?_ | refine blk_alloc ?_ _)); refine blk_put (cs := #[.int .i64 0, .string (⟨#[]⟩ : ByteArray), .int .i64 0]) ?_ 0 _ rfl; (with_reducible repeat (first | refine blk_drewN ?_ _ | refine blk_drew ?_ | refine blk_alloc ?_ _)); exact BK123.out⟩
                                                            have n5_ : Aside0 (Below w.heap.size w ((((w71.setCell ⟨gb123, 0, none⟩ (.int .i64 ((rd_T36 t102 x15_6).f0))).setCell ⟨gb123, 1, none⟩ (.string ((rd_T36 t102 x15_6).f1))).setCell ⟨gb123, 2, none⟩ (.int .i64 ((rd_T36 t102 x15_6).f2))).setCell ⟨gb123, 2, none⟩ (.int .i64 (wrap64 (((rd_T36 t102 x15_6).f2) + (x11_4.size : Int)))))) := ⟨by repeat (first | (with_reducible first | exact HB.out | apply below_alloc | apply pw_below_drewN | apply below_drew1 | refine below_set ?_ GE107.out | refine below_set ?_ GE120.out | refine below_set ?_ GE123.out) | exact HB.out)⟩
                                                            (try clear HO_7)
                                                            (try clear HO_13)
                                                            (try clear BK107)
                                                            (try clear BK120)
                                                            (try clear BK123)
                                                            (try clear HB)
                                                            generalize ((((w71.setCell ⟨gb123, 0, none⟩ (.int .i64 ((rd_T36 t102 x15_6).f0))).setCell ⟨gb123, 1, none⟩ (.string ((rd_T36 t102 x15_6).f1))).setCell ⟨gb123, 2, none⟩ (.int .i64 ((rd_T36 t102 x15_6).f2))).setCell ⟨gb123, 2, none⟩ (.int .i64 (wrap64 (((rd_T36 t102 x15_6).f2) + (x11_4.size : Int))))) = w75 at n0_ n1_ n2_ n3_ n4_ n5_ ⊢
                                                            have HO_7 := n0_
                                                            have HO_13 := n1_
                                                            have BK107 := n2_
                                                            have BK120 := n3_
                                                            have BK123 := n4_
                                                            have HB := n5_
                                                            clear n0_ n1_ n2_ n3_ n4_ n5_
                                                            have n0_ := Aside0.mk (Kd.R_drew HO_7.out)
                                                            have n1_ := Aside0.mk (Kd.R_drew HO_13.out)
                                                            have n2_ := Aside0.mk (blk_drew BK107.out)
                                                            have n3_ := Aside0.mk (blk_drew BK120.out)
                                                            have n4_ := Aside0.mk (blk_drew BK123.out)
                                                            have n5_ := Aside0.mk (below_drew1 HB.out)
                                                            clear HO_7
                                                            clear HO_13
                                                            clear BK107
                                                            clear BK120
                                                            clear BK123
                                                            clear HB
                                                            have HO_7 := n0_
                                                            have HO_13 := n1_
                                                            have BK107 := n2_
                                                            have BK120 := n3_
                                                            have BK123 := n4_
                                                            have HB := n5_
                                                            clear n0_ n1_ n2_ n3_ n4_ n5_
                                                            obtain ⟨Ao77, co77, eo77⟩ := Kd.R_slice HO_13.out
                                                            (first | subst eo77 | (injection eo77 with f1_ f2_ f3_; have f4_ := f1_.symm; have f5_ := f3_.symm; clear f1_ f2_ f3_; subst f4_; subst f5_))
                                                            have p124 : 0 ≤ (x15_6 : Int) := of_decide_eq_true (by first | (with_reducible assumption) | assumption)
                                                            have q124 : x15_6 < (t115.length : Int) := of_decide_eq_true (by first | (with_reducible assumption) | assumption)
                                                            obtain ⟨ad124, e124, hx124_0, hx124_1, hx124_2⟩ := at_T36 (Kd.R_reads' HO_13.out).2.2 x15_6 p124 q124
                                                            cases e124
                                                            replace p124 := eq_true p124
                                                            replace q124 := eq_true q124
                                                            refine start_ (n := 6) (S := fun w' => w'.cell? ⟨gb123, 0, none⟩ = some (.int .i64 ((rd_T36 t102 x15_6).f0)) ∧ w'.cell? ⟨gb123, 1, none⟩ = some (.string ((rd_T36 t102 x15_6).f1)) ∧ w'.cell? ⟨gb123, 2, none⟩ = some (.int .i64 (wrap64 (((rd_T36 t102 x15_6).f2) + (x11_4.size : Int)))) ∧ w'.cell? (ad124.add ((x15_6).toNat * 3)) = some (.int .i64 ((rd_T36 t115 x15_6).f0)) ∧ w'.cell? ⟨(ad124.add ((x15_6).toNat * 3)).block, (ad124.add ((x15_6).toNat * 3)).off + 1, none⟩ = some (.string ((rd_T36 t115 x15_6).f1)) ∧ w'.cell? ⟨(ad124.add ((x15_6).toNat * 3)).block, (ad124.add ((x15_6).toNat * 3)).off + 2, none⟩ = some (.int .i64 ((rd_T36 t115 x15_6).f2))) (ds := []) #[false, false, false, false, false, false] (by kernel_rfl) rfl rfl ⟨(blk_cell BK123.out 0).trans rfl, (blk_cell BK123.out 1).trans rfl, (blk_cell BK123.out 2).trans rfl, hx124_0, hx124_1, hx124_2⟩ (fun hHeld => ?_)
                                                            generalize w75.drew = w76 at HO_7 HO_13 BK107 BK120 BK123 HB hx124_0 hx124_1 hx124_2 hHeld ⊢
                                                            refine pure_ (i := 0) (N := some 116) (v := ?_) (a' := ?_) #[true, false, false, false, false, false] rfl rfl (by kernel_rfl) (fun _ _ _ h => h) (Or.inl ⟨by rfl, ?_⟩) ?_ ?_
                                                            rotate_left
                                                            · intro w'
                                                              go_simp
                                                              with_reducible rfl
                                                            rotate_left
                                                            · simp only [Act.put, List.setIfInBounds_toArray, List.set_cons_zero, List.set_cons_succ, i64_w, i32_w]
                                                              rfl
                                                            refine pure_ (i := 1) (N := some 117) (v := ?_) (a' := ?_) #[true, true, false, false, false, false] rfl rfl (by kernel_rfl) (fun _ _ _ h => h) (Or.inl ⟨by rfl, ?_⟩) ?_ ?_
                                                            rotate_left
                                                            · intro w'
                                                              go_simp
                                                              with_reducible rfl
                                                            rotate_left
                                                            · simp only [Act.put, List.setIfInBounds_toArray, List.set_cons_zero, List.set_cons_succ, i64_w, i32_w]
                                                              rfl
                                                            refine pure_ (i := 2) (N := some 118) (v := ?_) (a' := ?_) #[true, true, true, false, false, false] rfl rfl (by kernel_rfl) (fun _ _ _ h => h) (Or.inl ⟨by rfl, ?_⟩) ?_ ?_
                                                            rotate_left
                                                            · intro w'
                                                              go_simp
                                                              with_reducible rfl
                                                            rotate_left
                                                            · simp only [Act.put, List.setIfInBounds_toArray, List.set_cons_zero, List.set_cons_succ, i64_w, i32_w]
                                                              rfl
                                                            refine take_ (i := 3) (N := some 119) (v := ?_) (a' := ?_) #[true, true, true, true, false, false] rfl rfl (by kernel_rfl) (fun _ _ _ h => h) (Or.inl ⟨by rfl, ?_⟩) hHeld ?_ ?_
                                                            rotate_left
                                                            · rintro w' ⟨s0, s1, s2, s3, s4, s5⟩
                                                              go_simp
                                                              with_reducible rfl
                                                            rotate_left
                                                            · simp only [Act.put, List.setIfInBounds_toArray, List.set_cons_zero, List.set_cons_succ, i64_w, i32_w]
                                                              rfl
                                                            refine take_ (i := 4) (N := some 120) (v := ?_) (a' := ?_) #[true, true, true, true, true, false] rfl rfl (by kernel_rfl) (fun _ _ _ h => h) (Or.inl ⟨by rfl, ?_⟩) hHeld ?_ ?_
                                                            rotate_left
                                                            · rintro w' ⟨s0, s1, s2, s3, s4, s5⟩
                                                              go_simp
                                                              with_reducible rfl
                                                            rotate_left
                                                            · simp only [Act.put, List.setIfInBounds_toArray, List.set_cons_zero, List.set_cons_succ, i64_w, i32_w]
                                                              rfl
                                                            refine pure_ (i := 5) (N := some 121) (v := ?_) (a' := ?_) #[true, true, true, true, true, true] rfl rfl (by kernel_rfl) (fun _ _ _ h => h) (Or.inl ⟨by rfl, ?_⟩) ?_ ?_
                                                            rotate_left
                                                            · intro w'
                                                              go_simp
                                                              with_reducible rfl
                                                            rotate_left
                                                            · simp only [Act.put, List.setIfInBounds_toArray, List.set_cons_zero, List.set_cons_succ, i64_w, i32_w]
                                                              rfl
                                                            refine done_ (by kernel_rfl) ?_
                                                            try go_wp2
                                                            go_roundg k6
                                                            case measure => have := HJ3.out; have := HJ9.out; have := HJ24.out; have := HK4.out; have := HJ44.out; have := HK6.out; omega
                                                            case rel => exact ⟨(wrap64 (x15_6 + 1)), (by first | rfl | (simp; done) | (simp [*]; done)), H', ⟨by have := HJ3.out; have := HJ9.out; have := HJ24.out; have := HK4.out; have := HJ44.out; have := HK6.out; omega⟩, ⟨by (with_reducible repeat (first | apply Kd.R_alloc | apply Kd.R_drewN | apply Kd.R_drew)); exact Kd.R_mono HO_7.out (fun _ hk => hk.1)⟩, ⟨by (with_reducible repeat (first | apply Kd.R_alloc | apply Kd.R_drewN | apply Kd.R_drew)); exact Kd.R_mono HO_13.out (fun _ hk => hk.1)⟩, ⟨by (with_reducible repeat (first | refine blk_drewN ?_ _ | refine blk_drew ?_ | refine blk_alloc ?_ _)); exact BK107.out⟩, ⟨by (with_reducible repeat (first | refine blk_drewN ?_ _ | refine blk_drew ?_ | refine blk_alloc ?_ _)); exact BK120.out⟩, ⟨by repeat (first | (with_reducible first | exact HB.out | apply below_alloc | apply pw_below_drewN | apply below_drew1 | refine below_set ?_ GE107.out | refine below_set ?_ GE120.out | refine below_set ?_ GE123.out) | exact HB.out)⟩⟩
                                                        · rw [if_neg c62] at H
                                                          exact absurd H (by simp)
                                                      · rw [if_neg c61] at H
                                                        have c61b0 : decide (ji22 ≤ x15_6) = false := decide_eq_false c61
                                                        clear c61
                                                        by_cases c78 : x15_6 < (t115.length : Int)
                                                        · rw [if_pos c78] at H
                                                          have c78b0 : decide (x15_6 < (t115.length : Int)) = true := decide_eq_true c78
                                                          clear c78
                                                          by_cases c79 : (!(((rd_T36 t115 x15_6).f0) == ((rd_T36 t102 x15_6).f0)) || (!((((rd_T36 t115 x15_6).f1).toList) == (((rd_T36 t102 x15_6).f1).toList)) || (!(((rd_T36 t115 x15_6).f2) == ((rd_T36 t102 x15_6).f2))))) = true
                                                          · rw [if_pos c79] at H
                                                            have c79b0 : (!(((rd_T36 t115 x15_6).f0) == ((rd_T36 t102 x15_6).f0)) || (!((((rd_T36 t115 x15_6).f1).toList) == (((rd_T36 t102 x15_6).f1).toList)) || (!(((rd_T36 t115 x15_6).f2) == ((rd_T36 t102 x15_6).f2))))) = true := c79
                                                            clear c79
                                                            obtain rfl := Option.some.inj H
                                                            have p122 : 0 ≤ (x15_6 : Int) := of_decide_eq_true (by first | (with_reducible assumption) | assumption)
                                                            have q122 : x15_6 < (t102.length : Int) := of_decide_eq_true (by first | (with_reducible assumption) | assumption)
                                                            obtain ⟨ad122, e122, hx122_0, hx122_1, hx122_2⟩ := at_T36 (Kd.R_reads' HO_7.out).2.2 x15_6 p122 q122
                                                            obtain rfl : ad109 = ad122 := (by injection e122)
                                                            replace p122 := eq_true p122
                                                            replace q122 := eq_true q122
                                                            try go_wp2_with (first | ((with_reducible refine gate_dst (N := 16) rfl ?_); (try (refine gate_guard (by rfl) ?_; dsimp only)); refine box_event ?hg (N := 16) ?hd (cs := #[.int .i64 0, .string (⟨#[]⟩ : ByteArray), .int .i64 0]) (t := 36) ?hr ?_; (case hd => rfl); (case hg => rfl); (case hr => first | (go_simp; done) | (go_simp; rfl)); intro gb123 hg w80 hbox hb; have n0_ := Aside0.mk (Kd.R_below (Kd.R_elderB (by (with_reducible repeat (first | apply Kd.R_alloc | apply Kd.R_drewN | apply Kd.R_drew)); exact HO_7.out) gb123 (Nat.le_of_eq hg.symm)) hb); have n1_ := Aside0.mk (Kd.R_below (Kd.R_elderB (by (with_reducible repeat (first | apply Kd.R_alloc | apply Kd.R_drewN | apply Kd.R_drew)); exact HO_13.out) gb123 (Nat.le_of_eq hg.symm)) hb); have n2_ := Aside0.mk (blk_below (g := gb107) (o := .cells #[.int .i64 t105, .int .i64 t106] 26 (0, 0)) (by (with_reducible repeat (first | refine blk_drewN ?_ _ | refine blk_drew ?_ | refine blk_alloc ?_ _)); exact BK107.out) hb); have n3_ := Aside0.mk (blk_below (g := gb120) (o := .cells #[.int .i64 t118, .int .i64 t119] 26 (0, 0)) (by (with_reducible repeat (first | refine blk_drewN ?_ _ | refine blk_drew ?_ | refine blk_alloc ?_ _)); exact BK120.out) hb); have n4_ := Aside0.mk (below_step (by repeat (first | (with_reducible first | exact HB.out | apply below_alloc | apply pw_below_drewN | apply below_drew1 | refine below_set ?_ GE107.out | refine below_set ?_ GE120.out) | exact HB.out)) hb); have n5_ := Aside0.mk (hbox); have n6_ := Aside0.mk ((by rw [hg]; exact (below_size (by repeat (first | (with_reducible first | exact HB.out | apply below_alloc | apply pw_below_drewN | apply below_drew1 | refine below_set ?_ GE107.out | refine below_set ?_ GE120.out) | exact HB.out))) : w.heap.size ≤ gb123)); have n7_ := Aside0.mk ((by rw [hg]; exact (below_size (by repeat (first | (with_reducible first | exact HB.out | apply below_alloc | apply pw_below_drewN | apply below_drew1 | refine below_set ?_ GE107.out | refine below_set ?_ GE120.out) | exact HB.out))) : w.heap.size ≤ gb123)); have n8_ := Aside0.mk ((by rw [hg]; exact Nat.ne_of_lt (blk_lt (g := gb107) (o := .cells #[.int .i64 t105, .int .i64 t106] 26 (0, 0)) (by (with_reducible repeat (first | refine blk_drewN ?_ _ | refine blk_drew ?_ | refine blk_alloc ?_ _)); exact BK107.out)) : gb107 ≠ gb123)); have n9_ := Aside0.mk ((by rw [hg]; exact Nat.ne_of_gt (blk_lt (g := gb107) (o := .cells #[.int .i64 t105, .int .i64 t106] 26 (0, 0)) (by (with_reducible repeat (first | refine blk_drewN ?_ _ | refine blk_drew ?_ | refine blk_alloc ?_ _)); exact BK107.out)) : gb123 ≠ gb107)); have n10_ := Aside0.mk ((by rw [hg]; exact Nat.ne_of_lt (blk_lt (g := gb120) (o := .cells #[.int .i64 t118, .int .i64 t119] 26 (0, 0)) (by (with_reducible repeat (first | refine blk_drewN ?_ _ | refine blk_drew ?_ | refine blk_alloc ?_ _)); exact BK120.out)) : gb120 ≠ gb123)); have n11_ := Aside0.mk ((by rw [hg]; exact Nat.ne_of_gt (blk_lt (g := gb120) (o := .cells #[.int .i64 t118, .int .i64 t119] 26 (0, 0)) (by (with_reducible repeat (first | refine blk_drewN ?_ _ | refine blk_drew ?_ | refine blk_alloc ?_ _)); exact BK120.out)) : gb123 ≠ gb120)); clear HO_7; clear HO_13; clear BK107; clear BK120; clear HB; have HO_7 := n0_; have HO_13 := n1_; have BK107 := n2_; have BK120 := n3_; have HB := n4_; have BK123 := n5_; have GW123 := n6_; have GE123 := n7_; have NB107_123 := n8_; have NB123_107 := n9_; have NB120_123 := n10_; have NB123_120 := n11_; clear n0_ n1_ n2_ n3_ n4_ n5_ n6_ n7_ n8_ n9_ n10_ n11_; clear hb hbox hg; have hnb81 := NB123_107.out; have hnc81 := NB107_123.out; have hnb82 := NB123_120.out; have hnc82 := NB120_123.out; have hcz83_0 : w80.cell? ⟨gb123, 0, none⟩ = some (.int .i64 0) := (blk_cell BK123.out 0).trans rfl; have hcz83_1 : w80.cell? ⟨gb123, 1, none⟩ = some (.string (⟨#[]⟩ : ByteArray)) := (blk_cell BK123.out 1).trans rfl; have hcz83_2 : w80.cell? ⟨gb123, 2, none⟩ = some (.int .i64 0) := (blk_cell BK123.out 2).trans rfl; have hfz83_0 := blk_frozen BK123.out 0; have hfz83_1 := blk_frozen BK123.out 1; have hfz83_2 := blk_frozen BK123.out 2))
                                                            have n0_ : Aside0 (Kd.R k36 36 (((w80.setCell ⟨gb123, 0, none⟩ (.int .i64 ((rd_T36 t102 x15_6).f0))).setCell ⟨gb123, 1, none⟩ (.string ((rd_T36 t102 x15_6).f1))).setCell ⟨gb123, 2, none⟩ (.int .i64 ((rd_T36 t102 x15_6).f2))) w.heap.size (fun k_ => some k_ ≠ (v116 : Value).ownBlock ∧ k_ ≠ gb123) (.slice (some ad109) t102.length co26) t102) := ⟨by (with_reducible repeat (first | apply Kd.R_alloc | apply Kd.R_drewN | apply Kd.R_drew)); exact Kd.R_mono (Kd.R_far (p := ⟨gb123, 2, none⟩) (Kd.R_far (p := ⟨gb123, 1, none⟩) (Kd.R_far (p := ⟨gb123, 0, none⟩) (Kd.R_mono HO_7.out (fun k_ hk => (⟨hk, hk.2⟩ : _ ∧ k_ ≠ gb123))) (fun _ hk => hk.2) (.int .i64 ((rd_T36 t102 x15_6).f0))) (fun _ hk => hk.2) (.string ((rd_T36 t102 x15_6).f1))) (fun _ hk => hk.2) (.int .i64 ((rd_T36 t102 x15_6).f2))) (fun _ hk => ⟨hk.1.1, hk.1.2⟩)⟩
                                                            have n1_ : Aside0 (Kd.R k36 36 (((w80.setCell ⟨gb123, 0, none⟩ (.int .i64 ((rd_T36 t102 x15_6).f0))).setCell ⟨gb123, 1, none⟩ (.string ((rd_T36 t102 x15_6).f1))).setCell ⟨gb123, 2, none⟩ (.int .i64 ((rd_T36 t102 x15_6).f2))) w.heap.size (fun k_ => some k_ ≠ (.slice (some ad109) t102.length co26 : Value).ownBlock ∧ k_ ≠ gb123) v116 t115) := ⟨by (with_reducible repeat (first | apply Kd.R_alloc | apply Kd.R_drewN | apply Kd.R_drew)); exact Kd.R_mono (Kd.R_far (p := ⟨gb123, 2, none⟩) (Kd.R_far (p := ⟨gb123, 1, none⟩) (Kd.R_far (p := ⟨gb123, 0, none⟩) (Kd.R_mono HO_13.out (fun k_ hk => (⟨hk, hk.2⟩ : _ ∧ k_ ≠ gb123))) (fun _ hk => hk.2) (.int .i64 ((rd_T36 t102 x15_6).f0))) (fun _ hk => hk.2) (.string ((rd_T36 t102 x15_6).f1))) (fun _ hk => hk.2) (.int .i64 ((rd_T36 t102 x15_6).f2))) (fun _ hk => ⟨hk.1.1, hk.1.2⟩)⟩
                                                            have n2_ : Aside0 ((((w80.setCell ⟨gb123, 0, none⟩ (.int .i64 ((rd_T36 t102 x15_6).f0))).setCell ⟨gb123, 1, none⟩ (.string ((rd_T36 t102 x15_6).f1))).setCell ⟨gb123, 2, none⟩ (.int .i64 ((rd_T36 t102 x15_6).f2))).heap[gb107]? = some (.cells #[.int .i64 t105, .int .i64 t106] 26 (0, 0))) := ⟨by (with_reducible repeat (first | refine blk_drewN ?_ _ | refine blk_drew ?_ | refine blk_alloc ?_ _)); refine blk_far ?_ NB107_123.out _; (with_reducible repeat (first | refine blk_drewN ?_ _ | refine blk_drew ?_ | refine blk_alloc ?_ _)); refine blk_far ?_ NB107_123.out _; (with_reducible repeat (first | refine blk_drewN ?_ _ | refine blk_drew ?_ | refine blk_alloc ?_ _)); refine blk_far ?_ NB107_123.out _; (with_reducible repeat (first | refine blk_drewN ?_ _ | refine blk_drew ?_ | refine blk_alloc ?_ _)); exact BK107.out⟩
                                                            have n3_ : Aside0 ((((w80.setCell ⟨gb123, 0, none⟩ (.int .i64 ((rd_T36 t102 x15_6).f0))).setCell ⟨gb123, 1, none⟩ (.string ((rd_T36 t102 x15_6).f1))).setCell ⟨gb123, 2, none⟩ (.int .i64 ((rd_T36 t102 x15_6).f2))).heap[gb120]? = some (.cells #[.int .i64 t118, .int .i64 t119] 26 (0, 0))) := ⟨by (with_reducible repeat (first | refine blk_drewN ?_ _ | refine blk_drew ?_ | refine blk_alloc ?_ _)); refine blk_far ?_ NB120_123.out _; (with_reducible repeat (first | refine blk_drewN ?_ _ | refine blk_drew ?_ | refine blk_alloc ?_ _)); refine blk_far ?_ NB120_123.out _; (with_reducible repeat (first | refine blk_drewN ?_ _ | refine blk_drew ?_ | refine blk_alloc ?_ _)); refine blk_far ?_ NB120_123.out _; (with_reducible repeat (first | refine blk_drewN ?_ _ | refine blk_drew ?_ | refine blk_alloc ?_ _)); exact BK120.out⟩
                                                            have n4_ : Aside0 ((((w80.setCell ⟨gb123, 0, none⟩ (.int .i64 ((rd_T36 t102 x15_6).f0))).setCell ⟨gb123, 1, none⟩ (.string ((rd_T36 t102 x15_6).f1))).setCell ⟨gb123, 2, none⟩ (.int .i64 ((rd_T36 t102 x15_6).f2))).heap[gb123]? = some (.cells #[.int .i64 ((rd_T36 t102 x15_6).f0), .string ((rd_T36 t102 x15_6).f1), .int .i64 ((rd_T36 t102 x15_6).f2)] 36 (0, 0))) := ⟨by (with_reducible repeat (first | refine blk_drewN ?_ _ | refine blk_drew ?_ | refine blk_alloc ?_ _)); refine blk_put (cs := #[.int .i64 ((rd_T36 t102 x15_6).f0), .string ((rd_T36 t102 x15_6).f1), .int .i64 0]) ?_ 2 _ rfl; (with_reducible repeat (first | refine blk_drewN ?_ _ | refine blk_drew ?_ | refine blk_alloc ?_ _)); refine blk_put (cs := #[.int .i64 ((rd_T36 t102 x15_6).f0), .string (⟨#[]⟩ : ByteArray), .int .i64 0]) ?_ 1 _ rfl; (with_reducible repeat (first | refine blk_drewN ?_ _ | refine blk_drew ?_ | refine blk_alloc ?_ _)); refine blk_put (cs := #[.int .i64 0, .string (⟨#[]⟩ : ByteArray), .int .i64 0]) ?_ 0 _ rfl; (with_reducible repeat (first | refine blk_drewN ?_ _ | refine blk_drew ?_ | refine blk_alloc ?_ _)); exact BK123.out⟩
                                                            have n5_ : Aside0 (Below w.heap.size w (((w80.setCell ⟨gb123, 0, none⟩ (.int .i64 ((rd_T36 t102 x15_6).f0))).setCell ⟨gb123, 1, none⟩ (.string ((rd_T36 t102 x15_6).f1))).setCell ⟨gb123, 2, none⟩ (.int .i64 ((rd_T36 t102 x15_6).f2)))) := ⟨by repeat (first | (with_reducible first | exact HB.out | apply below_alloc | apply pw_below_drewN | apply below_drew1 | refine below_set ?_ GE107.out | refine below_set ?_ GE120.out | refine below_set ?_ GE123.out) | exact HB.out)⟩
                                                            (try clear HO_7)
                                                            (try clear HO_13)
                                                            (try clear BK107)
                                                            (try clear BK120)
                                                            (try clear BK123)
                                                            (try clear HB)
                                                            generalize (((w80.setCell ⟨gb123, 0, none⟩ (.int .i64 ((rd_T36 t102 x15_6).f0))).setCell ⟨gb123, 1, none⟩ (.string ((rd_T36 t102 x15_6).f1))).setCell ⟨gb123, 2, none⟩ (.int .i64 ((rd_T36 t102 x15_6).f2))) = w84 at n0_ n1_ n2_ n3_ n4_ n5_ ⊢
                                                            have HO_7 := n0_
                                                            have HO_13 := n1_
                                                            have BK107 := n2_
                                                            have BK120 := n3_
                                                            have BK123 := n4_
                                                            have HB := n5_
                                                            clear n0_ n1_ n2_ n3_ n4_ n5_
                                                            have n0_ := Aside0.mk (Kd.R_drew HO_7.out)
                                                            have n1_ := Aside0.mk (Kd.R_drew HO_13.out)
                                                            have n2_ := Aside0.mk (blk_drew BK107.out)
                                                            have n3_ := Aside0.mk (blk_drew BK120.out)
                                                            have n4_ := Aside0.mk (blk_drew BK123.out)
                                                            have n5_ := Aside0.mk (below_drew1 HB.out)
                                                            clear HO_7
                                                            clear HO_13
                                                            clear BK107
                                                            clear BK120
                                                            clear BK123
                                                            clear HB
                                                            have HO_7 := n0_
                                                            have HO_13 := n1_
                                                            have BK107 := n2_
                                                            have BK120 := n3_
                                                            have BK123 := n4_
                                                            have HB := n5_
                                                            clear n0_ n1_ n2_ n3_ n4_ n5_
                                                            obtain ⟨Ao86, co86, eo86⟩ := Kd.R_slice HO_13.out
                                                            (first | subst eo86 | (injection eo86 with f1_ f2_ f3_; have f4_ := f1_.symm; have f5_ := f3_.symm; clear f1_ f2_ f3_; subst f4_; subst f5_))
                                                            have p125 : 0 ≤ (x15_6 : Int) := of_decide_eq_true (by first | (with_reducible assumption) | assumption)
                                                            have q125 : x15_6 < (t115.length : Int) := of_decide_eq_true (by first | (with_reducible assumption) | assumption)
                                                            obtain ⟨ad125, e125, hx125_0, hx125_1, hx125_2⟩ := at_T36 (Kd.R_reads' HO_13.out).2.2 x15_6 p125 q125
                                                            cases e125
                                                            replace p125 := eq_true p125
                                                            replace q125 := eq_true q125
                                                            refine start_ (n := 6) (S := fun w' => w'.cell? ⟨gb123, 0, none⟩ = some (.int .i64 ((rd_T36 t102 x15_6).f0)) ∧ w'.cell? ⟨gb123, 1, none⟩ = some (.string ((rd_T36 t102 x15_6).f1)) ∧ w'.cell? ⟨gb123, 2, none⟩ = some (.int .i64 ((rd_T36 t102 x15_6).f2)) ∧ w'.cell? (ad125.add ((x15_6).toNat * 3)) = some (.int .i64 ((rd_T36 t115 x15_6).f0)) ∧ w'.cell? ⟨(ad125.add ((x15_6).toNat * 3)).block, (ad125.add ((x15_6).toNat * 3)).off + 1, none⟩ = some (.string ((rd_T36 t115 x15_6).f1)) ∧ w'.cell? ⟨(ad125.add ((x15_6).toNat * 3)).block, (ad125.add ((x15_6).toNat * 3)).off + 2, none⟩ = some (.int .i64 ((rd_T36 t115 x15_6).f2))) (ds := []) #[false, false, false, false, false, false] (by kernel_rfl) rfl rfl ⟨(blk_cell BK123.out 0).trans rfl, (blk_cell BK123.out 1).trans rfl, (blk_cell BK123.out 2).trans rfl, hx125_0, hx125_1, hx125_2⟩ (fun hHeld => ?_)
                                                            generalize w84.drew = w85 at HO_7 HO_13 BK107 BK120 BK123 HB hx125_0 hx125_1 hx125_2 hHeld ⊢
                                                            refine pure_ (i := 0) (N := some 116) (v := ?_) (a' := ?_) #[true, false, false, false, false, false] rfl rfl (by kernel_rfl) (fun _ _ _ h => h) (Or.inl ⟨by rfl, ?_⟩) ?_ ?_
                                                            rotate_left
                                                            · intro w'
                                                              go_simp
                                                              with_reducible rfl
                                                            rotate_left
                                                            · simp only [Act.put, List.setIfInBounds_toArray, List.set_cons_zero, List.set_cons_succ, i64_w, i32_w]
                                                              rfl
                                                            refine pure_ (i := 1) (N := some 117) (v := ?_) (a' := ?_) #[true, true, false, false, false, false] rfl rfl (by kernel_rfl) (fun _ _ _ h => h) (Or.inl ⟨by rfl, ?_⟩) ?_ ?_
                                                            rotate_left
                                                            · intro w'
                                                              go_simp
                                                              with_reducible rfl
                                                            rotate_left
                                                            · simp only [Act.put, List.setIfInBounds_toArray, List.set_cons_zero, List.set_cons_succ, i64_w, i32_w]
                                                              rfl
                                                            refine pure_ (i := 2) (N := some 118) (v := ?_) (a' := ?_) #[true, true, true, false, false, false] rfl rfl (by kernel_rfl) (fun _ _ _ h => h) (Or.inl ⟨by rfl, ?_⟩) ?_ ?_
                                                            rotate_left
                                                            · intro w'
                                                              go_simp
                                                              with_reducible rfl
                                                            rotate_left
                                                            · simp only [Act.put, List.setIfInBounds_toArray, List.set_cons_zero, List.set_cons_succ, i64_w, i32_w]
                                                              rfl
                                                            refine take_ (i := 3) (N := some 119) (v := ?_) (a' := ?_) #[true, true, true, true, false, false] rfl rfl (by kernel_rfl) (fun _ _ _ h => h) (Or.inl ⟨by rfl, ?_⟩) hHeld ?_ ?_
                                                            rotate_left
                                                            · rintro w' ⟨s0, s1, s2, s3, s4, s5⟩
                                                              go_simp
                                                              with_reducible rfl
                                                            rotate_left
                                                            · simp only [Act.put, List.setIfInBounds_toArray, List.set_cons_zero, List.set_cons_succ, i64_w, i32_w]
                                                              rfl
                                                            refine take_ (i := 4) (N := some 120) (v := ?_) (a' := ?_) #[true, true, true, true, true, false] rfl rfl (by kernel_rfl) (fun _ _ _ h => h) (Or.inl ⟨by rfl, ?_⟩) hHeld ?_ ?_
                                                            rotate_left
                                                            · rintro w' ⟨s0, s1, s2, s3, s4, s5⟩
                                                              go_simp
                                                              with_reducible rfl
                                                            rotate_left
                                                            · simp only [Act.put, List.setIfInBounds_toArray, List.set_cons_zero, List.set_cons_succ, i64_w, i32_w]
                                                              rfl
                                                            refine pure_ (i := 5) (N := some 121) (v := ?_) (a' := ?_) #[true, true, true, true, true, true] rfl rfl (by kernel_rfl) (fun _ _ _ h => h) (Or.inl ⟨by rfl, ?_⟩) ?_ ?_
                                                            rotate_left
                                                            · intro w'
                                                              go_simp
                                                              with_reducible rfl
                                                            rotate_left
                                                            · simp only [Act.put, List.setIfInBounds_toArray, List.set_cons_zero, List.set_cons_succ, i64_w, i32_w]
                                                              rfl
                                                            refine done_ (by kernel_rfl) ?_
                                                            try go_wp2
                                                            go_ret
                                                            exact ⟨by first | rfl | (simp [errW_none, errW_some] <;> rfl) | (simp only [← hji22]; first | rfl | (simp [errW_none, errW_some] <;> rfl)) | (simp [*, errW_none, errW_some] <;> rfl), by repeat (first | (with_reducible first | exact HB.out | apply below_alloc | apply pw_below_drewN | apply below_drew1 | refine below_set ?_ GE107.out | refine below_set ?_ GE120.out | refine below_set ?_ GE123.out) | exact HB.out)⟩
                                                          · rw [if_neg c79] at H
                                                            have c79b0 : (!(((rd_T36 t115 x15_6).f0) == ((rd_T36 t102 x15_6).f0)) || (!((((rd_T36 t115 x15_6).f1).toList) == (((rd_T36 t102 x15_6).f1).toList)) || (!(((rd_T36 t115 x15_6).f2) == ((rd_T36 t102 x15_6).f2))))) = false := by simpa using c79
                                                            clear c79
                                                            have H' := Aside0.mk H
                                                            clear H
                                                            have p122 : 0 ≤ (x15_6 : Int) := of_decide_eq_true (by first | (with_reducible assumption) | assumption)
                                                            have q122 : x15_6 < (t102.length : Int) := of_decide_eq_true (by first | (with_reducible assumption) | assumption)
                                                            obtain ⟨ad122, e122, hx122_0, hx122_1, hx122_2⟩ := at_T36 (Kd.R_reads' HO_7.out).2.2 x15_6 p122 q122
                                                            obtain rfl : ad109 = ad122 := (by injection e122)
                                                            replace p122 := eq_true p122
                                                            replace q122 := eq_true q122
                                                            try go_wp2_with (first | ((with_reducible refine gate_dst (N := 16) rfl ?_); (try (refine gate_guard (by rfl) ?_; dsimp only)); refine box_event ?hg (N := 16) ?hd (cs := #[.int .i64 0, .string (⟨#[]⟩ : ByteArray), .int .i64 0]) (t := 36) ?hr ?_; (case hd => rfl); (case hg => rfl); (case hr => first | (go_simp; done) | (go_simp; rfl)); intro gb123 hg w87 hbox hb; have n0_ := Aside0.mk (Kd.R_below (Kd.R_elderB (by (with_reducible repeat (first | apply Kd.R_alloc | apply Kd.R_drewN | apply Kd.R_drew)); exact HO_7.out) gb123 (Nat.le_of_eq hg.symm)) hb); have n1_ := Aside0.mk (Kd.R_below (Kd.R_elderB (by (with_reducible repeat (first | apply Kd.R_alloc | apply Kd.R_drewN | apply Kd.R_drew)); exact HO_13.out) gb123 (Nat.le_of_eq hg.symm)) hb); have n2_ := Aside0.mk (blk_below (g := gb107) (o := .cells #[.int .i64 t105, .int .i64 t106] 26 (0, 0)) (by (with_reducible repeat (first | refine blk_drewN ?_ _ | refine blk_drew ?_ | refine blk_alloc ?_ _)); exact BK107.out) hb); have n3_ := Aside0.mk (blk_below (g := gb120) (o := .cells #[.int .i64 t118, .int .i64 t119] 26 (0, 0)) (by (with_reducible repeat (first | refine blk_drewN ?_ _ | refine blk_drew ?_ | refine blk_alloc ?_ _)); exact BK120.out) hb); have n4_ := Aside0.mk (below_step (by repeat (first | (with_reducible first | exact HB.out | apply below_alloc | apply pw_below_drewN | apply below_drew1 | refine below_set ?_ GE107.out | refine below_set ?_ GE120.out) | exact HB.out)) hb); have n5_ := Aside0.mk (hbox); have n6_ := Aside0.mk ((by rw [hg]; exact (below_size (by repeat (first | (with_reducible first | exact HB.out | apply below_alloc | apply pw_below_drewN | apply below_drew1 | refine below_set ?_ GE107.out | refine below_set ?_ GE120.out) | exact HB.out))) : w.heap.size ≤ gb123)); have n7_ := Aside0.mk ((by rw [hg]; exact (below_size (by repeat (first | (with_reducible first | exact HB.out | apply below_alloc | apply pw_below_drewN | apply below_drew1 | refine below_set ?_ GE107.out | refine below_set ?_ GE120.out) | exact HB.out))) : w.heap.size ≤ gb123)); have n8_ := Aside0.mk ((by rw [hg]; exact Nat.ne_of_lt (blk_lt (g := gb107) (o := .cells #[.int .i64 t105, .int .i64 t106] 26 (0, 0)) (by (with_reducible repeat (first | refine blk_drewN ?_ _ | refine blk_drew ?_ | refine blk_alloc ?_ _)); exact BK107.out)) : gb107 ≠ gb123)); have n9_ := Aside0.mk ((by rw [hg]; exact Nat.ne_of_gt (blk_lt (g := gb107) (o := .cells #[.int .i64 t105, .int .i64 t106] 26 (0, 0)) (by (with_reducible repeat (first | refine blk_drewN ?_ _ | refine blk_drew ?_ | refine blk_alloc ?_ _)); exact BK107.out)) : gb123 ≠ gb107)); have n10_ := Aside0.mk ((by rw [hg]; exact Nat.ne_of_lt (blk_lt (g := gb120) (o := .cells #[.int .i64 t118, .int .i64 t119] 26 (0, 0)) (by (with_reducible repeat (first | refine blk_drewN ?_ _ | refine blk_drew ?_ | refine blk_alloc ?_ _)); exact BK120.out)) : gb120 ≠ gb123)); have n11_ := Aside0.mk ((by rw [hg]; exact Nat.ne_of_gt (blk_lt (g := gb120) (o := .cells #[.int .i64 t118, .int .i64 t119] 26 (0, 0)) (by (with_reducible repeat (first | refine blk_drewN ?_ _ | refine blk_drew ?_ | refine blk_alloc ?_ _)); exact BK120.out)) : gb123 ≠ gb120)); clear HO_7; clear HO_13; clear BK107; clear BK120; clear HB; have HO_7 := n0_; have HO_13 := n1_; have BK107 := n2_; have BK120 := n3_; have HB := n4_; have BK123 := n5_; have GW123 := n6_; have GE123 := n7_; have NB107_123 := n8_; have NB123_107 := n9_; have NB120_123 := n10_; have NB123_120 := n11_; clear n0_ n1_ n2_ n3_ n4_ n5_ n6_ n7_ n8_ n9_ n10_ n11_; clear hb hbox hg; have hnb88 := NB123_107.out; have hnc88 := NB107_123.out; have hnb89 := NB123_120.out; have hnc89 := NB120_123.out; have hcz90_0 : w87.cell? ⟨gb123, 0, none⟩ = some (.int .i64 0) := (blk_cell BK123.out 0).trans rfl; have hcz90_1 : w87.cell? ⟨gb123, 1, none⟩ = some (.string (⟨#[]⟩ : ByteArray)) := (blk_cell BK123.out 1).trans rfl; have hcz90_2 : w87.cell? ⟨gb123, 2, none⟩ = some (.int .i64 0) := (blk_cell BK123.out 2).trans rfl; have hfz90_0 := blk_frozen BK123.out 0; have hfz90_1 := blk_frozen BK123.out 1; have hfz90_2 := blk_frozen BK123.out 2))
                                                            have n0_ : Aside0 (Kd.R k36 36 (((w87.setCell ⟨gb123, 0, none⟩ (.int .i64 ((rd_T36 t102 x15_6).f0))).setCell ⟨gb123, 1, none⟩ (.string ((rd_T36 t102 x15_6).f1))).setCell ⟨gb123, 2, none⟩ (.int .i64 ((rd_T36 t102 x15_6).f2))) w.heap.size (fun k_ => some k_ ≠ (v116 : Value).ownBlock ∧ k_ ≠ gb123) (.slice (some ad109) t102.length co26) t102) := ⟨by (with_reducible repeat (first | apply Kd.R_alloc | apply Kd.R_drewN | apply Kd.R_drew)); exact Kd.R_mono (Kd.R_far (p := ⟨gb123, 2, none⟩) (Kd.R_far (p := ⟨gb123, 1, none⟩) (Kd.R_far (p := ⟨gb123, 0, none⟩) (Kd.R_mono HO_7.out (fun k_ hk => (⟨hk, hk.2⟩ : _ ∧ k_ ≠ gb123))) (fun _ hk => hk.2) (.int .i64 ((rd_T36 t102 x15_6).f0))) (fun _ hk => hk.2) (.string ((rd_T36 t102 x15_6).f1))) (fun _ hk => hk.2) (.int .i64 ((rd_T36 t102 x15_6).f2))) (fun _ hk => ⟨hk.1.1, hk.1.2⟩)⟩
                                                            have n1_ : Aside0 (Kd.R k36 36 (((w87.setCell ⟨gb123, 0, none⟩ (.int .i64 ((rd_T36 t102 x15_6).f0))).setCell ⟨gb123, 1, none⟩ (.string ((rd_T36 t102 x15_6).f1))).setCell ⟨gb123, 2, none⟩ (.int .i64 ((rd_T36 t102 x15_6).f2))) w.heap.size (fun k_ => some k_ ≠ (.slice (some ad109) t102.length co26 : Value).ownBlock ∧ k_ ≠ gb123) v116 t115) := ⟨by (with_reducible repeat (first | apply Kd.R_alloc | apply Kd.R_drewN | apply Kd.R_drew)); exact Kd.R_mono (Kd.R_far (p := ⟨gb123, 2, none⟩) (Kd.R_far (p := ⟨gb123, 1, none⟩) (Kd.R_far (p := ⟨gb123, 0, none⟩) (Kd.R_mono HO_13.out (fun k_ hk => (⟨hk, hk.2⟩ : _ ∧ k_ ≠ gb123))) (fun _ hk => hk.2) (.int .i64 ((rd_T36 t102 x15_6).f0))) (fun _ hk => hk.2) (.string ((rd_T36 t102 x15_6).f1))) (fun _ hk => hk.2) (.int .i64 ((rd_T36 t102 x15_6).f2))) (fun _ hk => ⟨hk.1.1, hk.1.2⟩)⟩
                                                            have n2_ : Aside0 ((((w87.setCell ⟨gb123, 0, none⟩ (.int .i64 ((rd_T36 t102 x15_6).f0))).setCell ⟨gb123, 1, none⟩ (.string ((rd_T36 t102 x15_6).f1))).setCell ⟨gb123, 2, none⟩ (.int .i64 ((rd_T36 t102 x15_6).f2))).heap[gb107]? = some (.cells #[.int .i64 t105, .int .i64 t106] 26 (0, 0))) := ⟨by (with_reducible repeat (first | refine blk_drewN ?_ _ | refine blk_drew ?_ | refine blk_alloc ?_ _)); refine blk_far ?_ NB107_123.out _; (with_reducible repeat (first | refine blk_drewN ?_ _ | refine blk_drew ?_ | refine blk_alloc ?_ _)); refine blk_far ?_ NB107_123.out _; (with_reducible repeat (first | refine blk_drewN ?_ _ | refine blk_drew ?_ | refine blk_alloc ?_ _)); refine blk_far ?_ NB107_123.out _; (with_reducible repeat (first | refine blk_drewN ?_ _ | refine blk_drew ?_ | refine blk_alloc ?_ _)); exact BK107.out⟩
                                                            have n3_ : Aside0 ((((w87.setCell ⟨gb123, 0, none⟩ (.int .i64 ((rd_T36 t102 x15_6).f0))).setCell ⟨gb123, 1, none⟩ (.string ((rd_T36 t102 x15_6).f1))).setCell ⟨gb123, 2, none⟩ (.int .i64 ((rd_T36 t102 x15_6).f2))).heap[gb120]? = some (.cells #[.int .i64 t118, .int .i64 t119] 26 (0, 0))) := ⟨by (with_reducible repeat (first | refine blk_drewN ?_ _ | refine blk_drew ?_ | refine blk_alloc ?_ _)); refine blk_far ?_ NB120_123.out _; (with_reducible repeat (first | refine blk_drewN ?_ _ | refine blk_drew ?_ | refine blk_alloc ?_ _)); refine blk_far ?_ NB120_123.out _; (with_reducible repeat (first | refine blk_drewN ?_ _ | refine blk_drew ?_ | refine blk_alloc ?_ _)); refine blk_far ?_ NB120_123.out _; (with_reducible repeat (first | refine blk_drewN ?_ _ | refine blk_drew ?_ | refine blk_alloc ?_ _)); exact BK120.out⟩
                                                            have n4_ : Aside0 ((((w87.setCell ⟨gb123, 0, none⟩ (.int .i64 ((rd_T36 t102 x15_6).f0))).setCell ⟨gb123, 1, none⟩ (.string ((rd_T36 t102 x15_6).f1))).setCell ⟨gb123, 2, none⟩ (.int .i64 ((rd_T36 t102 x15_6).f2))).heap[gb123]? = some (.cells #[.int .i64 ((rd_T36 t102 x15_6).f0), .string ((rd_T36 t102 x15_6).f1), .int .i64 ((rd_T36 t102 x15_6).f2)] 36 (0, 0))) := ⟨by (with_reducible repeat (first | refine blk_drewN ?_ _ | refine blk_drew ?_ | refine blk_alloc ?_ _)); refine blk_put (cs := #[.int .i64 ((rd_T36 t102 x15_6).f0), .string ((rd_T36 t102 x15_6).f1), .int .i64 0]) ?_ 2 _ rfl; (with_reducible repeat (first | refine blk_drewN ?_ _ | refine blk_drew ?_ | refine blk_alloc ?_ _)); refine blk_put (cs := #[.int .i64 ((rd_T36 t102 x15_6).f0), .string (⟨#[]⟩ : ByteArray), .int .i64 0]) ?_ 1 _ rfl; (with_reducible repeat (first | refine blk_drewN ?_ _ | refine blk_drew ?_ | refine blk_alloc ?_ _)); refine blk_put (cs := #[.int .i64 0, .string (⟨#[]⟩ : ByteArray), .int .i64 0]) ?_ 0 _ rfl; (with_reducible repeat (first | refine blk_drewN ?_ _ | refine blk_drew ?_ | refine blk_alloc ?_ _)); exact BK123.out⟩
                                                            have n5_ : Aside0 (Below w.heap.size w (((w87.setCell ⟨gb123, 0, none⟩ (.int .i64 ((rd_T36 t102 x15_6).f0))).setCell ⟨gb123, 1, none⟩ (.string ((rd_T36 t102 x15_6).f1))).setCell ⟨gb123, 2, none⟩ (.int .i64 ((rd_T36 t102 x15_6).f2)))) := ⟨by repeat (first | (with_reducible first | exact HB.out | apply below_alloc | apply pw_below_drewN | apply below_drew1 | refine below_set ?_ GE107.out | refine below_set ?_ GE120.out | refine below_set ?_ GE123.out) | exact HB.out)⟩
                                                            (try clear HO_7)
                                                            (try clear HO_13)
                                                            (try clear BK107)
                                                            (try clear BK120)
                                                            (try clear BK123)
                                                            (try clear HB)
                                                            generalize (((w87.setCell ⟨gb123, 0, none⟩ (.int .i64 ((rd_T36 t102 x15_6).f0))).setCell ⟨gb123, 1, none⟩ (.string ((rd_T36 t102 x15_6).f1))).setCell ⟨gb123, 2, none⟩ (.int .i64 ((rd_T36 t102 x15_6).f2))) = w91 at n0_ n1_ n2_ n3_ n4_ n5_ ⊢
                                                            have HO_7 := n0_
                                                            have HO_13 := n1_
                                                            have BK107 := n2_
                                                            have BK120 := n3_
                                                            have BK123 := n4_
                                                            have HB := n5_
                                                            clear n0_ n1_ n2_ n3_ n4_ n5_
                                                            have n0_ := Aside0.mk (Kd.R_drew HO_7.out)
                                                            have n1_ := Aside0.mk (Kd.R_drew HO_13.out)
                                                            have n2_ := Aside0.mk (blk_drew BK107.out)
                                                            have n3_ := Aside0.mk (blk_drew BK120.out)
                                                            have n4_ := Aside0.mk (blk_drew BK123.out)
                                                            have n5_ := Aside0.mk (below_drew1 HB.out)
                                                            clear HO_7
                                                            clear HO_13
                                                            clear BK107
                                                            clear BK120
                                                            clear BK123
                                                            clear HB
                                                            have HO_7 := n0_
                                                            have HO_13 := n1_
                                                            have BK107 := n2_
                                                            have BK120 := n3_
                                                            have BK123 := n4_
                                                            have HB := n5_
                                                            clear n0_ n1_ n2_ n3_ n4_ n5_
                                                            obtain ⟨Ao93, co93, eo93⟩ := Kd.R_slice HO_13.out
                                                            (first | subst eo93 | (injection eo93 with f1_ f2_ f3_; have f4_ := f1_.symm; have f5_ := f3_.symm; clear f1_ f2_ f3_; subst f4_; subst f5_))
                                                            have p125 : 0 ≤ (x15_6 : Int) := of_decide_eq_true (by first | (with_reducible assumption) | assumption)
                                                            have q125 : x15_6 < (t115.length : Int) := of_decide_eq_true (by first | (with_reducible assumption) | assumption)
                                                            obtain ⟨ad125, e125, hx125_0, hx125_1, hx125_2⟩ := at_T36 (Kd.R_reads' HO_13.out).2.2 x15_6 p125 q125
                                                            cases e125
                                                            replace p125 := eq_true p125
                                                            replace q125 := eq_true q125
                                                            refine start_ (n := 6) (S := fun w' => w'.cell? ⟨gb123, 0, none⟩ = some (.int .i64 ((rd_T36 t102 x15_6).f0)) ∧ w'.cell? ⟨gb123, 1, none⟩ = some (.string ((rd_T36 t102 x15_6).f1)) ∧ w'.cell? ⟨gb123, 2, none⟩ = some (.int .i64 ((rd_T36 t102 x15_6).f2)) ∧ w'.cell? (ad125.add ((x15_6).toNat * 3)) = some (.int .i64 ((rd_T36 t115 x15_6).f0)) ∧ w'.cell? ⟨(ad125.add ((x15_6).toNat * 3)).block, (ad125.add ((x15_6).toNat * 3)).off + 1, none⟩ = some (.string ((rd_T36 t115 x15_6).f1)) ∧ w'.cell? ⟨(ad125.add ((x15_6).toNat * 3)).block, (ad125.add ((x15_6).toNat * 3)).off + 2, none⟩ = some (.int .i64 ((rd_T36 t115 x15_6).f2))) (ds := []) #[false, false, false, false, false, false] (by kernel_rfl) rfl rfl ⟨(blk_cell BK123.out 0).trans rfl, (blk_cell BK123.out 1).trans rfl, (blk_cell BK123.out 2).trans rfl, hx125_0, hx125_1, hx125_2⟩ (fun hHeld => ?_)
                                                            generalize w91.drew = w92 at HO_7 HO_13 BK107 BK120 BK123 HB hx125_0 hx125_1 hx125_2 hHeld ⊢
                                                            refine pure_ (i := 0) (N := some 116) (v := ?_) (a' := ?_) #[true, false, false, false, false, false] rfl rfl (by kernel_rfl) (fun _ _ _ h => h) (Or.inl ⟨by rfl, ?_⟩) ?_ ?_
                                                            rotate_left
                                                            · intro w'
                                                              go_simp
                                                              with_reducible rfl
                                                            rotate_left
                                                            · simp only [Act.put, List.setIfInBounds_toArray, List.set_cons_zero, List.set_cons_succ, i64_w, i32_w]
                                                              rfl
                                                            refine pure_ (i := 1) (N := some 117) (v := ?_) (a' := ?_) #[true, true, false, false, false, false] rfl rfl (by kernel_rfl) (fun _ _ _ h => h) (Or.inl ⟨by rfl, ?_⟩) ?_ ?_
                                                            rotate_left
                                                            · intro w'
                                                              go_simp
                                                              with_reducible rfl
                                                            rotate_left
                                                            · simp only [Act.put, List.setIfInBounds_toArray, List.set_cons_zero, List.set_cons_succ, i64_w, i32_w]
                                                              rfl
                                                            refine pure_ (i := 2) (N := some 118) (v := ?_) (a' := ?_) #[true, true, true, false, false, false] rfl rfl (by kernel_rfl) (fun _ _ _ h => h) (Or.inl ⟨by rfl, ?_⟩) ?_ ?_
                                                            rotate_left
                                                            · intro w'
                                                              go_simp
                                                              with_reducible rfl
                                                            rotate_left
                                                            · simp only [Act.put, List.setIfInBounds_toArray, List.set_cons_zero, List.set_cons_succ, i64_w, i32_w]
                                                              rfl
                                                            refine take_ (i := 3) (N := some 119) (v := ?_) (a' := ?_) #[true, true, true, true, false, false] rfl rfl (by kernel_rfl) (fun _ _ _ h => h) (Or.inl ⟨by rfl, ?_⟩) hHeld ?_ ?_
                                                            rotate_left
                                                            · rintro w' ⟨s0, s1, s2, s3, s4, s5⟩
                                                              go_simp
                                                              with_reducible rfl
                                                            rotate_left
                                                            · simp only [Act.put, List.setIfInBounds_toArray, List.set_cons_zero, List.set_cons_succ, i64_w, i32_w]
                                                              rfl
                                                            refine take_ (i := 4) (N := some 120) (v := ?_) (a' := ?_) #[true, true, true, true, true, false] rfl rfl (by kernel_rfl) (fun _ _ _ h => h) (Or.inl ⟨by rfl, ?_⟩) hHeld ?_ ?_
                                                            rotate_left
                                                            · rintro w' ⟨s0, s1, s2, s3, s4, s5⟩
                                                              go_simp
                                                              with_reducible rfl
                                                            rotate_left
                                                            · simp only [Act.put, List.setIfInBounds_toArray, List.set_cons_zero, List.set_cons_succ, i64_w, i32_w]
                                                              rfl
                                                            refine pure_ (i := 5) (N := some 121) (v := ?_) (a' := ?_) #[true, true, true, true, true, true] rfl rfl (by kernel_rfl) (fun _ _ _ h => h) (Or.inl ⟨by rfl, ?_⟩) ?_ ?_
                                                            rotate_left
                                                            · intro w'
                                                              go_simp
                                                              with_reducible rfl
                                                            rotate_left
                                                            · simp only [Act.put, List.setIfInBounds_toArray, List.set_cons_zero, List.set_cons_succ, i64_w, i32_w]
                                                              rfl
                                                            refine done_ (by kernel_rfl) ?_
                                                            try go_wp2
                                                            go_roundg k6
                                                            case measure => have := HJ3.out; have := HJ9.out; have := HJ24.out; have := HK4.out; have := HJ44.out; have := HK6.out; omega
                                                            case rel => exact ⟨(wrap64 (x15_6 + 1)), (by first | rfl | (simp; done) | (simp [*]; done)), H', ⟨by have := HJ3.out; have := HJ9.out; have := HJ24.out; have := HK4.out; have := HJ44.out; have := HK6.out; omega⟩, ⟨by (with_reducible repeat (first | apply Kd.R_alloc | apply Kd.R_drewN | apply Kd.R_drew)); exact Kd.R_mono HO_7.out (fun _ hk => hk.1)⟩, ⟨by (with_reducible repeat (first | apply Kd.R_alloc | apply Kd.R_drewN | apply Kd.R_drew)); exact Kd.R_mono HO_13.out (fun _ hk => hk.1)⟩, ⟨by (with_reducible repeat (first | refine blk_drewN ?_ _ | refine blk_drew ?_ | refine blk_alloc ?_ _)); exact BK107.out⟩, ⟨by (with_reducible repeat (first | refine blk_drewN ?_ _ | refine blk_drew ?_ | refine blk_alloc ?_ _)); exact BK120.out⟩, ⟨by repeat (first | (with_reducible first | exact HB.out | apply below_alloc | apply pw_below_drewN | apply below_drew1 | refine below_set ?_ GE107.out | refine below_set ?_ GE120.out | refine below_set ?_ GE123.out) | exact HB.out)⟩⟩
                                                        · rw [if_neg c78] at H
                                                          exact absurd H (by simp)
                                                    · rw [if_neg c60] at H
                                                      exact absurd H (by simp)
                                                  · rw [if_neg c59] at H
                                                    have c59b0 : decide (x15_6 < (t102.length : Int)) = false := decide_eq_false c59
                                                    clear c59
                                                    replace H := Option.bind_eq_some_iff.mp H
                                                    obtain ⟨t121, A940, H⟩ := H
                                                    replace H : (some t121) = some r := H
                                                    have A94 := Aside0.mk A940
                                                    clear A940
                                                    obtain rfl := Option.some.inj H
                                                    go_wp2_with (first | ((with_reducible refine gate_callee (f := 9) rfl ?_); refine goesL_ (some 122) rfl rfl Try.func9 (by kernel_rfl) rfl #[] rfl (by (try simp only [List.map_toArray, List.map_cons, List.map_nil]); first | done | rfl | (simp only [List.length_drop, List.length_take]; rfl)) ?_; (with_reducible refine (topiaristlaw01_wakes.calls  t121 _ A94.out).mono ?_); rintro e w95 ⟨rfl, hb⟩; refine ⟨_, rfl, ?_⟩; have n0_ := Aside0.mk (Kd.R_below (by (with_reducible repeat (first | apply Kd.R_alloc | apply Kd.R_drewN | apply Kd.R_drew)); exact HO_7.out) hb); have n1_ := Aside0.mk (Kd.R_below (by (with_reducible repeat (first | apply Kd.R_alloc | apply Kd.R_drewN | apply Kd.R_drew)); exact HO_13.out) hb); have n2_ := Aside0.mk (blk_below (g := gb107) (o := .cells #[.int .i64 t105, .int .i64 t106] 26 (0, 0)) (by (with_reducible repeat (first | refine blk_drewN ?_ _ | refine blk_drew ?_ | refine blk_alloc ?_ _)); exact BK107.out) hb); have n3_ := Aside0.mk (blk_below (g := gb120) (o := .cells #[.int .i64 t118, .int .i64 t119] 26 (0, 0)) (by (with_reducible repeat (first | refine blk_drewN ?_ _ | refine blk_drew ?_ | refine blk_alloc ?_ _)); exact BK120.out) hb); have n4_ := Aside0.mk (below_step (by repeat (first | (with_reducible first | exact HB.out | apply below_alloc | apply pw_below_drewN | apply below_drew1 | refine below_set ?_ GE107.out | refine below_set ?_ GE120.out) | exact HB.out)) hb); clear HO_7; clear HO_13; clear BK107; clear BK120; clear HB; have HO_7 := n0_; have HO_13 := n1_; have BK107 := n2_; have BK120 := n3_; have HB := n4_; clear n0_ n1_ n2_ n3_ n4_; (try clear hb); (try clear hb2); (try clear hk); (try clear hi)))
                                                    go_ret
                                                    exact ⟨by first | rfl | (simp [errW_none, errW_some] <;> rfl) | (simp only [← hji22]; first | rfl | (simp [errW_none, errW_some] <;> rfl)) | (simp [*, errW_none, errW_some] <;> rfl), by repeat (first | (with_reducible first | exact HB.out | apply below_alloc | apply pw_below_drewN | apply below_drew1 | refine below_set ?_ GE107.out | refine below_set ?_ GE120.out) | exact HB.out)⟩
                                      · rw [if_neg c43] at H
                                        exact absurd H (by simp)
                                    · rw [if_neg c40] at H
                                      exact absurd H (by simp)
                                  · rw [if_neg c39] at H
                                    exact absurd H (by simp)
                                · rw [if_neg c38] at H
                                  exact absurd H (by simp)
                  · rw [if_neg c24] at H
                    exact absurd H (by simp)
                · rw [if_neg c23] at H
                  exact absurd H (by simp)

/-- THE ONE PURE STATEMENT of topiaristlaw01_LexNotes: yours. -/
def topiaristlaw01_LexNotes.Pure : Prop := ∀ (a0 : ByteArray) (a1 : Int) (l2 : List Int), a0.size ≤ 140737488351232 → (Lit.int .u8 a1).wf = true → l2.length ≤ maxLen → l2.length * 1 ≤ 140737488351232 → (∀ x ∈ l2, (Lit.int .u8 x).wf = true) → ∃ k, topiaristlaw01_LexNotes.f k a0 a1 l2 = some true
theorem topiaristlaw01_LexNotes.walk (P : topiaristlaw01_LexNotes.Pure) (a0 : ByteArray) (a1 : Int) (a2 : Option Addr) (len2 cap2 : Nat) (z2 : List Int) (w : World) (w0 : a0.size ≤ 140737488351232) (w1 : (Lit.int .u8 a1).wf = true) (w2 : (a2 = none ∧ len2 = 0 ∧ cap2 = 0 ∧ z2 = []) ∨ ∃ x, a2 = some x ∧ len2 ≤ cap2 ∧ cap2 ≤ maxLen ∧ z2.length = cap2 ∧ (∀ i, i < z2.length → w.cell? (x.add i) = some (.int .u8 (z2.getD i 0))) ∧ ∀ n ∈ z2, (Lit.int .u8 n).wf = true) (y2 : len2 * 1 ≤ 140737488351232) :
    Calls Try.prog 7 #[.string a0, .int .u8 a1, .slice a2 len2 cap2] w fun e w' => e = .returned (.bool true) ∧ Below w.heap.size w w' := by
  obtain ⟨l2, rfl, hr2, hm2, hw2, hc2⟩ := ReadsInt.ofRowC w2
  obtain ⟨k, h⟩ := P a0 a1 l2 w0 w1 hm2 y2 hw2
  refine (topiaristlaw01_LexNotes.calls k a0 a1 _ _ l2 true w (Kd.C_of_reads (d := (0 : Int)) (h1 := fun _ => rfl) hr2) hc2 h).mono ?_
  rintro e w' ⟨rfl, hd⟩
  exact ⟨rfl, hd⟩

end Go.Proofs.Ytfbncmcibfkfiaa.P
