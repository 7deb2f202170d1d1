-- Written by this session's own program wip/gen.py; Lean checks it.
import Derived.Test.YtfbncmcibfkfiaaPx0
import Derived.Test.YtfbncmcibfkfiaaPx14
import Derived.Test.YtfbncmcibfkfiaaPx16
import Derived.Test.YtfbncmcibfkfiaaPx20
import Derived.Test.YtfbncmcibfkfiaaPx21
namespace Go.Proofs.Ytfbncmcibfkfiaa.P
open Go.RowKit Go.Proofs.YtfbncmcibfkfiaaW.PrintWords Go.Proofs.YtfbncmcibfkfiaaW.PrintLast Go.Proofs.YtfbncmcibfkfiaaW.PrintMore
attribute [local go_sem] max2_int min2_int max_two min_two max_three min_three max_four min_four   -- for this text's walks alone
set_option linter.unusedVariables false
set_option linter.unusedSimpArgs false

/-! ### topiaristref01_Tokens: function 11 -/
mutual
def topiaristref01_Tokens.l0 : Nat → ByteArray → Int → List (S36) → Int → Int → Option ((List (S36)) × Int × Int)
  | 0, _, _, _, _, _ => none
  | k + 1, x0, x4, x103000, x103001, x103002 => if x4 < (x0.size : Int) then (if 0 ≤ x4 then (if (bt x0 x4) = 32 then (topiaristref01_Tokens.j1 k x0 x4 (bt x0 x4) (wrap64 (x4 + 1)) true x103000 x103001 x103002) else (if (bt x0 x4) = 9 then (topiaristref01_Tokens.j1 k x0 x4 (bt x0 x4) (wrap64 (x4 + 1)) true x103000 x103001 x103002) else (topiaristref01_Tokens.j1 k x0 x4 (bt x0 x4) (wrap64 (x4 + 1)) ((bt x0 x4) == 10) x103000 x103001 x103002))) else (none)) else (some (x103000, x103001, x103002))
def topiaristref01_Tokens.j1 : Nat → ByteArray → Int → Int → Int → Bool → List (S36) → Int → Int → Option ((List (S36)) × Int × Int)
  | 0, _, _, _, _, _, _, _, _ => none
  | k + 1, x0, x4, x5, x6, x23, x103000, x103001, x103002 => if x23 = true then (topiaristref01_Tokens.l0 k x0 x6 x103000 x103001 x103002) else (if x5 = 35 then (topiaristref01_Tokens.l1 k x0 x6 x103000 x103001 x103002) else (if x5 = 61 then (if x103000.length < 4398046511104 then (topiaristref01_Tokens.l0 k x0 x6 (x103000 ++ [(⟨3, (⟨#[61]⟩ : ByteArray), x4⟩ : S36)]) x103001 x103002) else (none)) else (if x5 = 124 then (if x103000.length < 4398046511104 then (topiaristref01_Tokens.l0 k x0 x6 (x103000 ++ [(⟨4, (⟨#[124]⟩ : ByteArray), x4⟩ : S36)]) x103001 x103002) else (none)) else (if x5 = 59 then (if x103000.length < 4398046511104 then (topiaristref01_Tokens.l0 k x0 x6 (x103000 ++ [(⟨5, (⟨#[59]⟩ : ByteArray), x4⟩ : S36)]) x103001 x103002) else (none)) else ((topiaristref01_letter.f x5).bind fun t112 => (if t112 = true then (topiaristref01_Tokens.l2 k x0 x4 x6 x103000 x103001 x103002) else (if x5 = 39 then (topiaristref01_Tokens.l3 k x0 x4 x6 x103000 x103001 x103002) else (some (([] : List (S36)), 11, x4)))))))))
def topiaristref01_Tokens.l1 : Nat → ByteArray → Int → List (S36) → Int → Int → Option ((List (S36)) × Int × Int)
  | 0, _, _, _, _, _ => none
  | k + 1, x0, x6, x103000, x103001, x103002 => if x6 < (x0.size : Int) then (if 0 ≤ x6 then (if (bt x0 x6) = 10 then (topiaristref01_Tokens.l0 k x0 x6 x103000 x103001 x103002) else (topiaristref01_Tokens.l1 k x0 (wrap64 (x6 + 1)) x103000 x103001 x103002)) else (none)) else (topiaristref01_Tokens.l0 k x0 x6 x103000 x103001 x103002)
def topiaristref01_Tokens.l2 : Nat → ByteArray → Int → Int → List (S36) → Int → Int → Option ((List (S36)) × Int × Int)
  | 0, _, _, _, _, _, _ => none
  | k + 1, x0, x4, x6, x103000, x103001, x103002 => if x6 < (x0.size : Int) then (if 0 ≤ x6 then ((topiaristref01_more.f (bt x0 x6)).bind fun t113 => (if t113 = true then (topiaristref01_Tokens.l2 k x0 x4 (wrap64 (x6 + 1)) x103000 x103001 x103002) else (if 0 ≤ x4 then (if x4 ≤ x6 then (if x6 ≤ (x0.size : Int) then ((topiaristref01_IsName.f k (x0.extract (x4 : Int).toNat (x6 : Int).toNat)).bind fun t114 => (if t114 = true then (if x103000.length < 4398046511104 then (topiaristref01_Tokens.l0 k x0 x6 (x103000 ++ [(⟨1, x0.extract (x4 : Int).toNat (x6 : Int).toNat, x4⟩ : S36)]) x103001 x103002) else (none)) else (some (([] : List (S36)), 11, x4)))) else (none)) else (none)) else (none)))) else (none)) else (if 0 ≤ x4 then (if x4 ≤ x6 then (if x6 ≤ (x0.size : Int) then ((topiaristref01_IsName.f k (x0.extract (x4 : Int).toNat (x6 : Int).toNat)).bind fun t118 => (if t118 = true then (if x103000.length < 4398046511104 then (topiaristref01_Tokens.l0 k x0 x6 (x103000 ++ [(⟨1, x0.extract (x4 : Int).toNat (x6 : Int).toNat, x4⟩ : S36)]) x103001 x103002) else (none)) else (some (([] : List (S36)), 11, x4)))) else (none)) else (none)) else (none))
def topiaristref01_Tokens.l3 : Nat → ByteArray → Int → Int → List (S36) → Int → Int → Option ((List (S36)) × Int × Int)
  | 0, _, _, _, _, _, _ => none
  | k + 1, x0, x4, x6, x103000, x103001, x103002 => if x6 < (x0.size : Int) then (if 0 ≤ x6 then (if (bt x0 x6) = 39 then (if x6 = (x0.size : Int) then (some (([] : List (S36)), 11, x4)) else (if 0 ≤ (wrap64 (x4 + 1)) then (if (wrap64 (x4 + 1)) ≤ x6 then (if x6 ≤ (x0.size : Int) then ((topiaristref01_IsTerm.f k (x0.extract ((wrap64 (x4 + 1)) : Int).toNat (x6 : Int).toNat)).bind fun t122 => (if t122 = true then (if x103000.length < 4398046511104 then (topiaristref01_Tokens.l0 k x0 (wrap64 (x6 + 1)) (x103000 ++ [(⟨2, x0.extract ((wrap64 (x4 + 1)) : Int).toNat (x6 : Int).toNat, x4⟩ : S36)]) x103001 x103002) else (none)) else (some (([] : List (S36)), 11, x4)))) else (none)) else (none)) else (none))) else (topiaristref01_Tokens.l3 k x0 x4 (wrap64 (x6 + 1)) x103000 x103001 x103002)) else (none)) else (if x6 = (x0.size : Int) then (some (([] : List (S36)), 11, x4)) else (if 0 ≤ (wrap64 (x4 + 1)) then (if (wrap64 (x4 + 1)) ≤ x6 then (if x6 ≤ (x0.size : Int) then ((topiaristref01_IsTerm.f k (x0.extract ((wrap64 (x4 + 1)) : Int).toNat (x6 : Int).toNat)).bind fun t126 => (if t126 = true then (if x103000.length < 4398046511104 then (topiaristref01_Tokens.l0 k x0 (wrap64 (x6 + 1)) (x103000 ++ [(⟨2, x0.extract ((wrap64 (x4 + 1)) : Int).toNat (x6 : Int).toNat, x4⟩ : S36)]) x103001 x103002) else (none)) else (some (([] : List (S36)), 11, x4)))) else (none)) else (none)) else (none)))
end
def topiaristref01_Tokens.f (k : Nat) (a0 : ByteArray) : Option ((List (S36)) × Int × Int) := if (a0.size : Int) > 2000 then (some (([] : List (S36)), 14, 0)) else (topiaristref01_Tokens.l0 k a0 0 ([] : List (S36)) 0 0)
theorem topiaristref01_Tokens.mono_l : ∀ k, (∀ y0 y1 y2 y3 y4, LeO (topiaristref01_Tokens.l0 k y0 y1 y2 y3 y4) (topiaristref01_Tokens.l0 (k + 1) y0 y1 y2 y3 y4)) ∧ (∀ y0 y1 y2 y3 y4 y5 y6 y7, LeO (topiaristref01_Tokens.j1 k y0 y1 y2 y3 y4 y5 y6 y7) (topiaristref01_Tokens.j1 (k + 1) y0 y1 y2 y3 y4 y5 y6 y7)) ∧ (∀ y0 y1 y2 y3 y4, LeO (topiaristref01_Tokens.l1 k y0 y1 y2 y3 y4) (topiaristref01_Tokens.l1 (k + 1) y0 y1 y2 y3 y4)) ∧ (∀ y0 y1 y2 y3 y4 y5, LeO (topiaristref01_Tokens.l2 k y0 y1 y2 y3 y4 y5) (topiaristref01_Tokens.l2 (k + 1) y0 y1 y2 y3 y4 y5)) ∧ (∀ y0 y1 y2 y3 y4 y5, LeO (topiaristref01_Tokens.l3 k y0 y1 y2 y3 y4 y5) (topiaristref01_Tokens.l3 (k + 1) y0 y1 y2 y3 y4 y5))
  | 0 => ⟨fun _ _ _ _ _ r h => by simp [topiaristref01_Tokens.l0] at h, fun _ _ _ _ _ _ _ _ r h => by simp [topiaristref01_Tokens.j1] at h, fun _ _ _ _ _ r h => by simp [topiaristref01_Tokens.l1] at h, fun _ _ _ _ _ _ r h => by simp [topiaristref01_Tokens.l2] at h, fun _ _ _ _ _ _ r h => by simp [topiaristref01_Tokens.l3] at h⟩
  | k + 1 => by
    obtain ⟨ih0, ih1, ih2, ih3, ih4⟩ := topiaristref01_Tokens.mono_l k
    refine ⟨?_, ?_, ?_, ?_, ?_⟩
    · intro y0 y1 y2 y3 y4
      unfold topiaristref01_Tokens.l0
      repeat' first
      | (with_reducible exact ih0 _ _ _ _ _)
      | (with_reducible exact ih1 _ _ _ _ _ _ _ _)
      | (with_reducible exact ih2 _ _ _ _ _)
      | (with_reducible exact ih3 _ _ _ _ _ _)
      | (with_reducible exact ih4 _ _ _ _ _ _)
      | (with_reducible exact topiaristref01_IsName.mono _ _)
      | (with_reducible exact topiaristref01_IsTerm.mono _ _)
      | (with_reducible exact LeO.refl _)
      | (with_reducible exact LeO.none _)
      | (with_reducible refine LeO.ite ?_ ?_)
      | (with_reducible refine LeO.bind ?_ (fun _ => ?_))
      | exact ih0 _ _ _ _ _
      | exact ih1 _ _ _ _ _ _ _ _
      | exact ih2 _ _ _ _ _
      | exact ih3 _ _ _ _ _ _
      | exact ih4 _ _ _ _ _ _
      | exact topiaristref01_IsName.mono _ _
      | exact topiaristref01_IsTerm.mono _ _
      | exact LeO.none _
      | refine LeO.ite ?_ ?_
      | refine LeO.bind ?_ (fun _ => ?_)
    · intro y0 y1 y2 y3 y4 y5 y6 y7
      unfold topiaristref01_Tokens.j1
      repeat' first
      | (with_reducible exact ih0 _ _ _ _ _)
      | (with_reducible exact ih1 _ _ _ _ _ _ _ _)
      | (with_reducible exact ih2 _ _ _ _ _)
      | (with_reducible exact ih3 _ _ _ _ _ _)
      | (with_reducible exact ih4 _ _ _ _ _ _)
      | (with_reducible exact topiaristref01_IsName.mono _ _)
      | (with_reducible exact topiaristref01_IsTerm.mono _ _)
      | (with_reducible exact LeO.refl _)
      | (with_reducible exact LeO.none _)
      | (with_reducible refine LeO.ite ?_ ?_)
      | (with_reducible refine LeO.bind ?_ (fun _ => ?_))
      | exact ih0 _ _ _ _ _
      | exact ih1 _ _ _ _ _ _ _ _
      | exact ih2 _ _ _ _ _
      | exact ih3 _ _ _ _ _ _
      | exact ih4 _ _ _ _ _ _
      | exact topiaristref01_IsName.mono _ _
      | exact topiaristref01_IsTerm.mono _ _
      | exact LeO.none _
      | refine LeO.ite ?_ ?_
      | refine LeO.bind ?_ (fun _ => ?_)
    · intro y0 y1 y2 y3 y4
      unfold topiaristref01_Tokens.l1
      repeat' first
      | (with_reducible exact ih0 _ _ _ _ _)
      | (with_reducible exact ih1 _ _ _ _ _ _ _ _)
      | (with_reducible exact ih2 _ _ _ _ _)
      | (with_reducible exact ih3 _ _ _ _ _ _)
      | (with_reducible exact ih4 _ _ _ _ _ _)
      | (with_reducible exact topiaristref01_IsName.mono _ _)
      | (with_reducible exact topiaristref01_IsTerm.mono _ _)
      | (with_reducible exact LeO.refl _)
      | (with_reducible exact LeO.none _)
      | (with_reducible refine LeO.ite ?_ ?_)
      | (with_reducible refine LeO.bind ?_ (fun _ => ?_))
      | exact ih0 _ _ _ _ _
      | exact ih1 _ _ _ _ _ _ _ _
      | exact ih2 _ _ _ _ _
      | exact ih3 _ _ _ _ _ _
      | exact ih4 _ _ _ _ _ _
      | exact topiaristref01_IsName.mono _ _
      | exact topiaristref01_IsTerm.mono _ _
      | exact LeO.none _
      | refine LeO.ite ?_ ?_
      | refine LeO.bind ?_ (fun _ => ?_)
    · intro y0 y1 y2 y3 y4 y5
      unfold topiaristref01_Tokens.l2
      repeat' first
      | (with_reducible exact ih0 _ _ _ _ _)
      | (with_reducible exact ih1 _ _ _ _ _ _ _ _)
      | (with_reducible exact ih2 _ _ _ _ _)
      | (with_reducible exact ih3 _ _ _ _ _ _)
      | (with_reducible exact ih4 _ _ _ _ _ _)
      | (with_reducible exact topiaristref01_IsName.mono _ _)
      | (with_reducible exact topiaristref01_IsTerm.mono _ _)
      | (with_reducible exact LeO.refl _)
      | (with_reducible exact LeO.none _)
      | (with_reducible refine LeO.ite ?_ ?_)
      | (with_reducible refine LeO.bind ?_ (fun _ => ?_))
      | exact ih0 _ _ _ _ _
      | exact ih1 _ _ _ _ _ _ _ _
      | exact ih2 _ _ _ _ _
      | exact ih3 _ _ _ _ _ _
      | exact ih4 _ _ _ _ _ _
      | exact topiaristref01_IsName.mono _ _
      | exact topiaristref01_IsTerm.mono _ _
      | exact LeO.none _
      | refine LeO.ite ?_ ?_
      | refine LeO.bind ?_ (fun _ => ?_)
    · intro y0 y1 y2 y3 y4 y5
      unfold topiaristref01_Tokens.l3
      repeat' first
      | (with_reducible exact ih0 _ _ _ _ _)
      | (with_reducible exact ih1 _ _ _ _ _ _ _ _)
      | (with_reducible exact ih2 _ _ _ _ _)
      | (with_reducible exact ih3 _ _ _ _ _ _)
      | (with_reducible exact ih4 _ _ _ _ _ _)
      | (with_reducible exact topiaristref01_IsName.mono _ _)
      | (with_reducible exact topiaristref01_IsTerm.mono _ _)
      | (with_reducible exact LeO.refl _)
      | (with_reducible exact LeO.none _)
      | (with_reducible refine LeO.ite ?_ ?_)
      | (with_reducible refine LeO.bind ?_ (fun _ => ?_))
      | exact ih0 _ _ _ _ _
      | exact ih1 _ _ _ _ _ _ _ _
      | exact ih2 _ _ _ _ _
      | exact ih3 _ _ _ _ _ _
      | exact ih4 _ _ _ _ _ _
      | exact topiaristref01_IsName.mono _ _
      | exact topiaristref01_IsTerm.mono _ _
      | exact LeO.none _
      | refine LeO.ite ?_ ?_
      | refine LeO.bind ?_ (fun _ => ?_)
theorem topiaristref01_Tokens.mono : ∀ a0 k, LeO (topiaristref01_Tokens.f k a0) (topiaristref01_Tokens.f (k + 1) a0) := by
  intro a0 k
  obtain ⟨ih0, ih1, ih2, ih3, ih4⟩ := topiaristref01_Tokens.mono_l k
  unfold topiaristref01_Tokens.f
  repeat' first
      | (with_reducible exact ih0 _ _ _ _ _)
      | (with_reducible exact ih1 _ _ _ _ _ _ _ _)
      | (with_reducible exact ih2 _ _ _ _ _)
      | (with_reducible exact ih3 _ _ _ _ _ _)
      | (with_reducible exact ih4 _ _ _ _ _ _)
      | (with_reducible exact topiaristref01_IsName.mono _ _)
      | (with_reducible exact topiaristref01_IsTerm.mono _ _)
      | (with_reducible exact LeO.refl _)
      | (with_reducible exact LeO.none _)
      | (with_reducible refine LeO.ite ?_ ?_)
      | (with_reducible refine LeO.bind ?_ (fun _ => ?_))
      | exact ih0 _ _ _ _ _
      | exact ih1 _ _ _ _ _ _ _ _
      | exact ih2 _ _ _ _ _
      | exact ih3 _ _ _ _ _ _
      | exact ih4 _ _ _ _ _ _
      | exact topiaristref01_IsName.mono _ _
      | exact topiaristref01_IsTerm.mono _ _
      | exact LeO.none _
      | refine LeO.ite ?_ ?_
      | refine LeO.bind ?_ (fun _ => ?_)
def topiaristref01_Tokens.T24 : Bool × List (List Nat × List Nat) := (true, [([], []), ([0], [0]), ([], []), ([], []), ([], []), ([2, 3, 4], [2, 3, 4]), ([], []), ([5, 6], [5, 6]), ([7], [7]), ([1, 8], [1, 8]), ([0, 1, 2, 3, 4, 5, 6, 7, 8, 9], []), ([10, 9, 9, 0, 1, 2, 3, 4, 5, 6, 7, 8, 9], [9, 10])])
def topiaristref01_Tokens.B24 : List Nat := [0, 1, 0, 0, 0, 28, 0, 124, 252, 511, 1023, 2047]
theorem topiaristref01_Tokens.tab24 : rtab .any (opsOf Try.f11 24) = topiaristref01_Tokens.T24 := by kernel_rfl
theorem topiaristref01_Tokens.bits24 : waitsOk topiaristref01_Tokens.T24.2 topiaristref01_Tokens.B24 = true := by kernel_rfl
def topiaristref01_Tokens.T30 : Bool × List (List Nat × List Nat) := (true, [([], []), ([0], [0]), ([], []), ([], []), ([3], [3]), ([], []), ([2, 4, 5], [2, 4, 5]), ([], []), ([6, 7], [6, 7]), ([8], [8]), ([1, 9], [1, 9]), ([0, 1, 2, 3, 4, 5, 6, 7, 8, 9, 10], []), ([11, 10, 10, 0, 1, 2, 3, 4, 5, 6, 7, 8, 9, 10], [10, 11])])
def topiaristref01_Tokens.B30 : List Nat := [0, 1, 0, 0, 8, 0, 60, 0, 252, 508, 1023, 2047, 4095]
theorem topiaristref01_Tokens.tab30 : rtab .any (opsOf Try.f11 30) = topiaristref01_Tokens.T30 := by kernel_rfl
theorem topiaristref01_Tokens.bits30 : waitsOk topiaristref01_Tokens.T30.2 topiaristref01_Tokens.B30 = true := by kernel_rfl
set_option maxHeartbeats 8000000 in
set_option maxRecDepth 100000 in
theorem topiaristref01_Tokens.calls (k : Nat) (a0 : ByteArray) (r1 : List (S36)) (r2 : Int) (r3 : Int) (w : World) (h : topiaristref01_Tokens.f k a0 = some (r1, r2, r3)) :
    Calls Try.prog 11 #[.string a0] w fun e w' => ∃ v0_ : Value, e = .returned (.agg #[v0_, .int .i64 r2, .int .i64 r3]) ∧ Kd.R k36 36 w' w.heap.size (fun _ => True) v0_ r1 ∧ Below w.heap.size w w' := by
  have hu30 := Try.underlying30
  have hu36 := Try.underlying36
  have HB := Aside0.mk (Below.refl w.heap.size w)
  have H : (if (a0.size : Int) > 2000 then (some (([] : List (S36)), 14, 0)) else (topiaristref01_Tokens.l0 k a0 0 ([] : List (S36)) 0 0)) = some (r1, r2, r3) := h
  clear h
  by_cases c2 : (a0.size : Int) > 2000
  · rw [if_pos c2] at H
    have c2b0 : decide (2000 < (a0.size : Int)) = true := decide_eq_true c2
    have c2b1 : decide (2000 < a0.size) = true := decide_eq_true (by omega)
    clear c2
    simp only [Option.some.injEq, Prod.mk.injEq] at H
    obtain ⟨rfl, rfl, rfl⟩ := H
    go_enter Try.func11, Try.ntmps11
    go_wp2_with (first | ((with_reducible refine gate_dst (N := 2) rfl ?_); refine box_event ?hg (N := 2) ?hd (cs := #[.slice none 0 0, .int .i64 0, .int .i64 0]) (t := 30) ?hr ?_; (case hd => rfl); (case hg => rfl); (case hr => first | (go_simp; done) | (go_simp; rfl)); intro gb101 hg w3 hbox hb; have n0_ := Aside0.mk (below_step (by repeat (first | (with_reducible first | exact HB.out | apply below_alloc | apply pw_below_drewN | apply below_drew1) | exact HB.out)) hb); have n1_ := Aside0.mk (hbox); have n2_ := Aside0.mk ((by rw [hg]; exact (below_size (by repeat (first | (with_reducible first | exact HB.out | apply below_alloc | apply pw_below_drewN | apply below_drew1) | exact HB.out))) : w.heap.size ≤ gb101)); have n3_ := Aside0.mk ((by rw [hg]; exact (below_size (by repeat (first | (with_reducible first | exact HB.out | apply below_alloc | apply pw_below_drewN | apply below_drew1) | exact HB.out))) : w.heap.size ≤ gb101)); clear HB; have HB := n0_; have BK101 := n1_; have GW101 := n2_; have GE101 := n3_; clear n0_ n1_ n2_ n3_; clear hb hbox hg; have hcz4_0 : w3.cell? ⟨gb101, 0, none⟩ = some (.slice none 0 0) := (blk_cell BK101.out 0).trans rfl; have hcz4_1 : w3.cell? ⟨gb101, 1, none⟩ = some (.int .i64 0) := (blk_cell BK101.out 1).trans rfl; have hcz4_2 : w3.cell? ⟨gb101, 2, none⟩ = some (.int .i64 0) := (blk_cell BK101.out 2).trans rfl; have hfz4_0 := blk_frozen BK101.out 0; have hfz4_1 := blk_frozen BK101.out 1; have hfz4_2 := blk_frozen BK101.out 2))
    refine bodyPost_ret (results_cell_row rfl _ _ gb101 30 #[.slice none 0 0, .int .i64 14, .int .i64 0] (0, 0) _ rfl (by (with_reducible repeat (first | refine blk_drewN ?_ _ | refine blk_drew ?_ | refine blk_alloc ?_ _)); refine blk_put (cs := #[.slice none 0 0, .int .i64 14, .int .i64 0]) ?_ 2 _ rfl; (with_reducible repeat (first | refine blk_drewN ?_ _ | refine blk_drew ?_ | refine blk_alloc ?_ _)); refine blk_put (cs := #[.slice none 0 0, .int .i64 0, .int .i64 0]) ?_ 1 _ rfl; (with_reducible repeat (first | refine blk_drewN ?_ _ | refine blk_drew ?_ | refine blk_alloc ?_ _)); refine blk_put (cs := #[.slice none 0 0, .int .i64 0, .int .i64 0]) ?_ 0 _ rfl; (with_reducible repeat (first | refine blk_drewN ?_ _ | refine blk_drew ?_ | refine blk_alloc ?_ _)); exact BK101.out) Try.underlying30 rfl (by kernel_rfl)) rfl ?_
    exact ⟨_, by first | rfl | (simp [errW_none, errW_some] <;> rfl) | (simp [*, errW_none, errW_some] <;> rfl), by first | exact Kd.R_nil _ _ _ _ _ | exact Kd.N_nil _ _ _ _ _ | exact Kd.V_nil _ _ _ _ _ | exact Kd.Q_nil _ _ _ _ _ | exact Kd.S_nil _ _ _ _ _, by repeat (first | (with_reducible first | exact HB.out | apply below_alloc | apply pw_below_drewN | apply below_drew1 | refine below_set ?_ GE101.out) | exact HB.out)⟩
  · rw [if_neg c2] at H
    have c2b0 : decide (2000 < (a0.size : Int)) = false := decide_eq_false c2
    have c2b1 : decide (2000 < a0.size) = false := decide_eq_false (by omega)
    clear c2
    have H' := Aside0.mk H
    clear H
    go_enter Try.func11, Try.ntmps11
    go_wp2_with (first | ((with_reducible refine gate_dst (N := 2) rfl ?_); refine box_event ?hg (N := 2) ?hd (cs := #[.slice none 0 0, .int .i64 0, .int .i64 0]) (t := 30) ?hr ?_; (case hd => rfl); (case hg => rfl); (case hr => first | (go_simp; done) | (go_simp; rfl)); intro gb101 hg w5 hbox hb; have n0_ := Aside0.mk (below_step (by repeat (first | (with_reducible first | exact HB.out | apply below_alloc | apply pw_below_drewN | apply below_drew1) | exact HB.out)) hb); have n1_ := Aside0.mk (hbox); have n2_ := Aside0.mk ((by rw [hg]; exact (below_size (by repeat (first | (with_reducible first | exact HB.out | apply below_alloc | apply pw_below_drewN | apply below_drew1) | exact HB.out))) : w.heap.size ≤ gb101)); have n3_ := Aside0.mk ((by rw [hg]; exact (below_size (by repeat (first | (with_reducible first | exact HB.out | apply below_alloc | apply pw_below_drewN | apply below_drew1) | exact HB.out))) : w.heap.size ≤ gb101)); clear HB; have HB := n0_; have BK101 := n1_; have GW101 := n2_; have GE101 := n3_; clear n0_ n1_ n2_ n3_; clear hb hbox hg) | ((with_reducible refine gate_dst (N := 3) rfl ?_); refine box_event ?hg (N := 3) ?hd (cs := #[.slice none 0 0, .int .i64 0, .int .i64 0]) (t := 30) ?hr ?_; (case hd => rfl); (case hg => rfl); (case hr => first | (go_simp; done) | (go_simp; rfl)); intro gb102 hg w6 hbox hb; have n0_ := Aside0.mk (blk_below (g := gb101) (o := .cells #[.slice none 0 0, .int .i64 0, .int .i64 0] 30 (0, 0)) (by (with_reducible repeat (first | refine blk_drewN ?_ _ | refine blk_drew ?_ | refine blk_alloc ?_ _)); exact BK101.out) hb); have n1_ := Aside0.mk (below_step (by repeat (first | (with_reducible first | exact HB.out | apply below_alloc | apply pw_below_drewN | apply below_drew1 | refine below_set ?_ GE101.out) | exact HB.out)) hb); have n2_ := Aside0.mk (hbox); have n3_ := Aside0.mk ((by rw [hg]; exact (below_size (by repeat (first | (with_reducible first | exact HB.out | apply below_alloc | apply pw_below_drewN | apply below_drew1 | refine below_set ?_ GE101.out) | exact HB.out))) : w.heap.size ≤ gb102)); have n4_ := Aside0.mk ((by rw [hg]; exact (below_size (by repeat (first | (with_reducible first | exact HB.out | apply below_alloc | apply pw_below_drewN | apply below_drew1 | refine below_set ?_ GE101.out) | exact HB.out))) : w.heap.size ≤ gb102)); have n5_ := Aside0.mk ((by rw [hg]; exact Nat.ne_of_lt (blk_lt (g := gb101) (o := .cells #[.slice none 0 0, .int .i64 0, .int .i64 0] 30 (0, 0)) (by (with_reducible repeat (first | refine blk_drewN ?_ _ | refine blk_drew ?_ | refine blk_alloc ?_ _)); exact BK101.out)) : gb101 ≠ gb102)); have n6_ := Aside0.mk ((by rw [hg]; exact Nat.ne_of_gt (blk_lt (g := gb101) (o := .cells #[.slice none 0 0, .int .i64 0, .int .i64 0] 30 (0, 0)) (by (with_reducible repeat (first | refine blk_drewN ?_ _ | refine blk_drew ?_ | refine blk_alloc ?_ _)); exact BK101.out)) : gb102 ≠ gb101)); clear BK101; clear HB; have BK101 := n0_; have HB := n1_; have BK102 := n2_; have GW102 := n3_; have GE102 := n4_; have NB101_102 := n5_; have NB102_101 := n6_; clear n0_ n1_ n2_ n3_ n4_ n5_ n6_; clear hb hbox hg; have hnb7 := NB102_101.out; have hnc7 := NB101_102.out; have hcz8_0 : w6.cell? ⟨gb102, 0, none⟩ = some (.slice none 0 0) := (blk_cell BK102.out 0).trans rfl; have hcz8_1 : w6.cell? ⟨gb102, 1, none⟩ = some (.int .i64 0) := (blk_cell BK102.out 1).trans rfl; have hcz8_2 : w6.cell? ⟨gb102, 2, none⟩ = some (.int .i64 0) := (blk_cell BK102.out 2).trans rfl; have hfz8_0 := blk_frozen BK102.out 0; have hfz8_1 := blk_frozen BK102.out 1; have hfz8_2 := blk_frozen BK102.out 2))
    go_loopg [4] k (fun kq v4 w' => ∃ (x4_1 : Int) (x102001_1 : Int) (x102002_1 : Int) (x103000_1 : List (S36)) (u103000 : Value), v4 = .int .i64 x4_1 ∧ Aside0 (topiaristref01_Tokens.l0 kq a0 x4_1 x103000_1 0 0 = some (r1, r2, r3)) ∧ Aside0 (kq ≤ k) ∧ Aside0 (Kd.R k36 36 w' w.heap.size (fun _ => True) u103000 x103000_1) ∧ Aside0 (w'.heap[gb101]? = some (.cells #[(.slice none 0 0), .int .i64 x102001_1, .int .i64 x102002_1] 30 (0, 0))) ∧ Aside0 (w'.heap[gb102]? = some (.cells #[u103000, .int .i64 0, .int .i64 0] 30 (0, 0))) ∧ Aside0 (Below w.heap.size w w'))
    case atStart => exact ⟨(0), (0), (0), (([] : List (S36))), (.slice none 0 0), (by first | rfl | (simp; done) | (simp [*]; done)), H', ⟨Nat.le_refl _⟩, ⟨by first | exact Kd.R_nil _ _ _ _ _ | exact Kd.N_nil _ _ _ _ _ | exact Kd.V_nil _ _ _ _ _ | exact Kd.Q_nil _ _ _ _ _ | exact Kd.S_nil _ _ _ _ _⟩, ⟨by (with_reducible repeat (first | refine blk_drewN ?_ _ | refine blk_drew ?_ | refine blk_alloc ?_ _)); refine blk_far ?_ NB101_102.out _; (with_reducible repeat (first | refine blk_drewN ?_ _ | refine blk_drew ?_ | refine blk_alloc ?_ _)); refine blk_far ?_ NB101_102.out _; (with_reducible repeat (first | refine blk_drewN ?_ _ | refine blk_drew ?_ | refine blk_alloc ?_ _)); refine blk_far ?_ NB101_102.out _; (with_reducible repeat (first | refine blk_drewN ?_ _ | refine blk_drew ?_ | refine blk_alloc ?_ _)); exact BK101.out⟩, ⟨by (with_reducible repeat (first | refine blk_drewN ?_ _ | refine blk_drew ?_ | refine blk_alloc ?_ _)); refine blk_put (cs := #[.slice none 0 0, .int .i64 0, .int .i64 0]) ?_ 2 _ rfl; (with_reducible repeat (first | refine blk_drewN ?_ _ | refine blk_drew ?_ | refine blk_alloc ?_ _)); refine blk_put (cs := #[.slice none 0 0, .int .i64 0, .int .i64 0]) ?_ 1 _ rfl; (with_reducible repeat (first | refine blk_drewN ?_ _ | refine blk_drew ?_ | refine blk_alloc ?_ _)); refine blk_put (cs := #[.slice none 0 0, .int .i64 0, .int .i64 0]) ?_ 0 _ rfl; (with_reducible repeat (first | refine blk_drewN ?_ _ | refine blk_drew ?_ | refine blk_alloc ?_ _)); exact BK102.out⟩, ⟨by repeat (first | (with_reducible first | exact HB.out | apply below_alloc | apply pw_below_drewN | apply below_drew1 | refine below_set ?_ GE101.out | refine below_set ?_ GE102.out) | exact HB.out)⟩⟩
    case round =>
      clear H'
      try clear c1
      try clear c2
      try clear c2b0
      try clear c2b1
      try clear p2
      try clear c7
      try clear hcz4_0
      try clear hcz4_1
      try clear hcz4_2
      try clear hcz8_0
      try clear hcz8_1
      try clear hcz8_2
      try clear hfz4_0
      try clear hfz4_1
      try clear hfz4_2
      try clear hfz8_0
      try clear hfz8_1
      try clear hfz8_2
      obtain ⟨x4_1, x102001_1, x102002_1, x103000_1, u103000, rfl, HA, HK1, HO_103000, BK101, BK102, HB⟩ := hrel
      cases gk with
      | zero => exact absurd HA.out (by simp [topiaristref01_Tokens.l0])
      | succ k1 =>
        have H := HA.out
        clear HA
        simp only [topiaristref01_Tokens.l0] at H
        by_cases c9 : x4_1 < (a0.size : Int)
        · rw [if_pos c9] at H
          have c9b0 : decide (x4_1 < (a0.size : Int)) = true := decide_eq_true c9
          clear c9
          by_cases c10 : 0 ≤ x4_1
          · rw [if_pos c10] at H
            have c10b0 : decide (0 ≤ x4_1) = true := decide_eq_true c10
            clear c10
            have HC12 := Aside0.mk H
            clear H
            have p11 : 0 ≤ (x4_1 : Int) := of_decide_eq_true (by first | (with_reducible assumption) | assumption)
            have q11 : x4_1 < (a0.size : Int) := of_decide_eq_true (by first | (with_reducible assumption) | assumption)
            have hx11 := bt_at a0 x4_1
            replace p11 := eq_true p11
            replace q11 := eq_true q11
            go_upto_region 9 with (fail)
            go_cut [23] (fun v23 wc => ∃ (kq : Nat) (x23_11 : Bool), v23 = .bool x23_11 ∧ Aside0 (topiaristref01_Tokens.j1 kq a0 x4_1 (bt a0 x4_1) (wrap64 (x4_1 + 1)) x23_11 x103000_1 0 0 = some (r1, r2, r3)) ∧ Aside0 (kq ≤ k1) ∧ Aside0 (Kd.R k36 36 wc w.heap.size (fun _ => True) u103000 x103000_1) ∧ Aside0 (wc.heap[gb101]? = some (.cells #[(.slice none 0 0), .int .i64 x102001_1, .int .i64 x102002_1] 30 (0, 0))) ∧ Aside0 (wc.heap[gb102]? = some (.cells #[u103000, .int .i64 0, .int .i64 0] 30 (0, 0))) ∧ Aside0 (Below w.heap.size w wc))
            case first =>
              have H := HC12.out
              clear HC12
              by_cases c13 : (bt a0 x4_1) = 32
              · rw [if_pos c13] at H
                have c13b0 : ((bt a0 x4_1) == 32) = true := beq_iff_eq.mpr c13
                have c13b1 : ((bt a0 x4_1) != 32) = false := bne_eq_false_iff_eq.mpr c13
                clear c13
                (first | rw [c13b0] | (simp only [i64_w, i32_w]; rw [c13b0]) | skip)
                have H' := Aside0.mk H
                clear H
                go_wp2
                go_meet
                case rel => exact ⟨_, (true), (by first | rfl | (simp; done) | (simp [*]; done)), H', ⟨by have := HK1.out; first | omega | exact Nat.le_refl _⟩, ⟨by (with_reducible repeat (first | apply Kd.R_alloc | apply Kd.R_drewN | apply Kd.R_drew)); exact HO_103000.out⟩, ⟨by (with_reducible repeat (first | refine blk_drewN ?_ _ | refine blk_drew ?_ | refine blk_alloc ?_ _)); exact BK101.out⟩, ⟨by (with_reducible repeat (first | refine blk_drewN ?_ _ | refine blk_drew ?_ | refine blk_alloc ?_ _)); exact BK102.out⟩, ⟨by repeat (first | (with_reducible first | exact HB.out | apply below_alloc | apply pw_below_drewN | apply below_drew1 | refine below_set ?_ GE101.out | refine below_set ?_ GE102.out) | exact HB.out)⟩⟩
              · rw [if_neg c13] at H
                have c13b0 : ((bt a0 x4_1) == 32) = false := beq_eq_false_iff_ne.mpr c13
                have c13b1 : ((bt a0 x4_1) != 32) = true := bne_iff_ne.mpr c13
                (first | rw [c13b0] | (simp only [i64_w, i32_w]; rw [c13b0]) | skip)
                by_cases c14 : (bt a0 x4_1) = 9
                · rw [if_pos c14] at H
                  have c14b0 : ((bt a0 x4_1) == 9) = true := beq_iff_eq.mpr c14
                  have c14b1 : ((bt a0 x4_1) != 9) = false := bne_eq_false_iff_eq.mpr c14
                  clear c14
                  have H' := Aside0.mk H
                  clear H
                  go_wp2
                  go_meet
                  case rel => exact ⟨_, (true), (by first | rfl | (simp; done) | (simp [*]; done)), H', ⟨by have := HK1.out; first | omega | exact Nat.le_refl _⟩, ⟨by (with_reducible repeat (first | apply Kd.R_alloc | apply Kd.R_drewN | apply Kd.R_drew)); exact HO_103000.out⟩, ⟨by (with_reducible repeat (first | refine blk_drewN ?_ _ | refine blk_drew ?_ | refine blk_alloc ?_ _)); exact BK101.out⟩, ⟨by (with_reducible repeat (first | refine blk_drewN ?_ _ | refine blk_drew ?_ | refine blk_alloc ?_ _)); exact BK102.out⟩, ⟨by repeat (first | (with_reducible first | exact HB.out | apply below_alloc | apply pw_below_drewN | apply below_drew1 | refine below_set ?_ GE101.out | refine below_set ?_ GE102.out) | exact HB.out)⟩⟩
                · rw [if_neg c14] at H
                  have c14b0 : ((bt a0 x4_1) == 9) = false := beq_eq_false_iff_ne.mpr c14
                  have c14b1 : ((bt a0 x4_1) != 9) = true := bne_iff_ne.mpr c14
                  have H' := Aside0.mk H
                  clear H
                  go_wp2
                  go_meet
                  case rel => exact ⟨_, (((bt a0 x4_1) == 10)), (by first | rfl | (simp; done) | (simp [*]; done)), H', ⟨by have := HK1.out; first | omega | exact Nat.le_refl _⟩, ⟨by (with_reducible repeat (first | apply Kd.R_alloc | apply Kd.R_drewN | apply Kd.R_drew)); exact HO_103000.out⟩, ⟨by (with_reducible repeat (first | refine blk_drewN ?_ _ | refine blk_drew ?_ | refine blk_alloc ?_ _)); exact BK101.out⟩, ⟨by (with_reducible repeat (first | refine blk_drewN ?_ _ | refine blk_drew ?_ | refine blk_alloc ?_ _)); exact BK102.out⟩, ⟨by repeat (first | (with_reducible first | exact HB.out | apply below_alloc | apply pw_below_drewN | apply below_drew1 | refine below_set ?_ GE101.out | refine below_set ?_ GE102.out) | exact HB.out)⟩⟩
            case rest =>
              clear HC12
              try clear c1
              try clear p1
              try clear q1
              try clear hx1
              try clear c2
              try clear c2b0
              try clear c2b1
              try clear p2
              try clear p6
              try clear c7
              try clear c9
              try clear c9b0
              try clear c10
              try clear c10b0
              try clear c11
              try clear p11
              try clear q11
              try clear hx11
              try clear c13
              try clear c13b0
              try clear c13b1
              try clear c14
              try clear c14b0
              try clear c14b1
              try clear hcz4_0
              try clear hcz4_1
              try clear hcz4_2
              try clear hcz8_0
              try clear hcz8_1
              try clear hcz8_2
              try clear hfz4_0
              try clear hfz4_1
              try clear hfz4_2
              try clear hfz8_0
              try clear hfz8_1
              try clear hfz8_2
              try clear p11
              try clear p2
              try clear q11
              obtain ⟨kq, x23_11, rfl, HA, HJ11, HO_103000, BK101, BK102, HB⟩ := hcut
              cases kq with
              | zero => exact absurd HA.out (by simp [topiaristref01_Tokens.j1])
              | succ kj11 =>
                have H := HA.out
                clear HA
                simp only [topiaristref01_Tokens.j1] at H
                by_cases c15 : x23_11 = true
                · subst c15
                  have H1 : (topiaristref01_Tokens.l0 kj11 a0 (wrap64 (x4_1 + 1)) x103000_1 0 0) = some (r1, r2, r3) := by rw [if_pos rfl] at H; exact H
                  clear H
                  have H := H1
                  clear H1
                  have H' := Aside0.mk H
                  clear H
                  go_wp2
                  go_roundg kj11
                  case measure => have := HK1.out; have := HJ11.out; omega
                  case rel => exact ⟨((wrap64 (x4_1 + 1))), (x102001_1), (x102002_1), (x103000_1), (u103000), (by first | rfl | (simp; done) | (simp [*]; done)), H', ⟨by have := HK1.out; have := HJ11.out; omega⟩, ⟨by (with_reducible repeat (first | apply Kd.R_alloc | apply Kd.R_drewN | apply Kd.R_drew)); exact HO_103000.out⟩, ⟨by (with_reducible repeat (first | refine blk_drewN ?_ _ | refine blk_drew ?_ | refine blk_alloc ?_ _)); exact BK101.out⟩, ⟨by (with_reducible repeat (first | refine blk_drewN ?_ _ | refine blk_drew ?_ | refine blk_alloc ?_ _)); exact BK102.out⟩, ⟨by repeat (first | (with_reducible first | exact HB.out | apply below_alloc | apply pw_below_drewN | apply below_drew1 | refine below_set ?_ GE101.out | refine below_set ?_ GE102.out) | exact HB.out)⟩⟩
                · replace c15 := Bool.eq_false_iff.mpr c15
                  subst c15
                  have H1 : (if (bt a0 x4_1) = 35 then (topiaristref01_Tokens.l1 kj11 a0 (wrap64 (x4_1 + 1)) x103000_1 0 0) else (if (bt a0 x4_1) = 61 then (if x103000_1.length < 4398046511104 then (topiaristref01_Tokens.l0 kj11 a0 (wrap64 (x4_1 + 1)) (x103000_1 ++ [(⟨3, (⟨#[61]⟩ : ByteArray), x4_1⟩ : S36)]) 0 0) else (none)) else (if (bt a0 x4_1) = 124 then (if x103000_1.length < 4398046511104 then (topiaristref01_Tokens.l0 kj11 a0 (wrap64 (x4_1 + 1)) (x103000_1 ++ [(⟨4, (⟨#[124]⟩ : ByteArray), x4_1⟩ : S36)]) 0 0) else (none)) else (if (bt a0 x4_1) = 59 then (if x103000_1.length < 4398046511104 then (topiaristref01_Tokens.l0 kj11 a0 (wrap64 (x4_1 + 1)) (x103000_1 ++ [(⟨5, (⟨#[59]⟩ : ByteArray), x4_1⟩ : S36)]) 0 0) else (none)) else ((topiaristref01_letter.f (bt a0 x4_1)).bind fun t112 => (if t112 = true then (topiaristref01_Tokens.l2 kj11 a0 x4_1 (wrap64 (x4_1 + 1)) x103000_1 0 0) else (if (bt a0 x4_1) = 39 then (topiaristref01_Tokens.l3 kj11 a0 x4_1 (wrap64 (x4_1 + 1)) x103000_1 0 0) else (some (([] : List (S36)), 11, x4_1))))))))) = some (r1, r2, r3) := by rw [if_neg (show ¬ (false = true) by decide)] at H; exact H
                  clear H
                  have H := H1
                  clear H1
                  by_cases c16 : (bt a0 x4_1) = 35
                  · rw [if_pos c16] at H
                    have c16b0 : ((bt a0 x4_1) == 35) = true := beq_iff_eq.mpr c16
                    have c16b1 : ((bt a0 x4_1) != 35) = false := bne_eq_false_iff_eq.mpr c16
                    clear c16
                    have H' := Aside0.mk H
                    clear H
                    go_wp2
                    go_loopg [6] kj11 (fun kq v6 w' => ∃ (x6_3 : Int), v6 = .int .i64 x6_3 ∧ Aside0 (topiaristref01_Tokens.l1 kq a0 x6_3 x103000_1 0 0 = some (r1, r2, r3)) ∧ Aside0 (kq ≤ kj11) ∧ Aside0 (Kd.R k36 36 w' w.heap.size (fun _ => True) u103000 x103000_1) ∧ Aside0 (w'.heap[gb101]? = some (.cells #[(.slice none 0 0), .int .i64 x102001_1, .int .i64 x102002_1] 30 (0, 0))) ∧ Aside0 (w'.heap[gb102]? = some (.cells #[u103000, .int .i64 0, .int .i64 0] 30 (0, 0))) ∧ Aside0 (Below w.heap.size w w'))
                    case atStart => exact ⟨((wrap64 (x4_1 + 1))), (by first | rfl | (simp; done) | (simp [*]; done)), H', ⟨Nat.le_refl _⟩, ⟨by (with_reducible repeat (first | apply Kd.R_alloc | apply Kd.R_drewN | apply Kd.R_drew)); exact HO_103000.out⟩, ⟨by (with_reducible repeat (first | refine blk_drewN ?_ _ | refine blk_drew ?_ | refine blk_alloc ?_ _)); exact BK101.out⟩, ⟨by (with_reducible repeat (first | refine blk_drewN ?_ _ | refine blk_drew ?_ | refine blk_alloc ?_ _)); exact BK102.out⟩, ⟨by repeat (first | (with_reducible first | exact HB.out | apply below_alloc | apply pw_below_drewN | apply below_drew1 | refine below_set ?_ GE101.out | refine below_set ?_ GE102.out) | exact HB.out)⟩⟩
                    case round =>
                      clear H'
                      try clear c1
                      try clear p1
                      try clear q1
                      try clear hx1
                      try clear c2
                      try clear c2b0
                      try clear c2b1
                      try clear p2
                      try clear p6
                      try clear c7
                      try clear c9
                      try clear c9b0
                      try clear c10
                      try clear c10b0
                      try clear c11
                      try clear p11
                      try clear q11
                      try clear hx11
                      try clear c13
                      try clear c13b0
                      try clear c13b1
                      try clear c14
                      try clear c14b0
                      try clear c14b1
                      try clear c15
                      try clear c16
                      try clear c16b0
                      try clear c16b1
                      try clear hcz4_0
                      try clear hcz4_1
                      try clear hcz4_2
                      try clear hcz8_0
                      try clear hcz8_1
                      try clear hcz8_2
                      try clear hfz4_0
                      try clear hfz4_1
                      try clear hfz4_2
                      try clear hfz8_0
                      try clear hfz8_1
                      try clear hfz8_2
                      try clear p1
                      try clear p11
                      try clear p2
                      try clear p6
                      try clear q1
                      try clear q11
                      obtain ⟨x6_3, rfl, HA, HK3, HO_103000, BK101, BK102, HB⟩ := hrel
                      cases gk with
                      | zero => exact absurd HA.out (by simp [topiaristref01_Tokens.l1])
                      | succ k3 =>
                        have H := HA.out
                        clear HA
                        simp only [topiaristref01_Tokens.l1] at H
                        by_cases c17 : x6_3 < (a0.size : Int)
                        · rw [if_pos c17] at H
                          have c17b0 : decide (x6_3 < (a0.size : Int)) = true := decide_eq_true c17
                          clear c17
                          by_cases c18 : 0 ≤ x6_3
                          · rw [if_pos c18] at H
                            have c18b0 : decide (0 ≤ x6_3) = true := decide_eq_true c18
                            clear c18
                            by_cases c20 : (bt a0 x6_3) = 10
                            · rw [if_pos c20] at H
                              have c20b0 : ((bt a0 x6_3) == 10) = true := beq_iff_eq.mpr c20
                              have c20b1 : ((bt a0 x6_3) != 10) = false := bne_eq_false_iff_eq.mpr c20
                              clear c20
                              have H' := Aside0.mk H
                              clear H
                              have p19 : 0 ≤ (x6_3 : Int) := of_decide_eq_true (by first | (with_reducible assumption) | assumption)
                              have q19 : x6_3 < (a0.size : Int) := of_decide_eq_true (by first | (with_reducible assumption) | assumption)
                              have hx19 := bt_at a0 x6_3
                              replace p19 := eq_true p19
                              replace q19 := eq_true q19
                              go_wp2
                              go_roundg k3
                              case measure => have := HK1.out; have := HJ11.out; have := HK3.out; omega
                              case rel => exact ⟨(x6_3), (x102001_1), (x102002_1), (x103000_1), (u103000), (by first | rfl | (simp; done) | (simp [*]; done)), H', ⟨by have := HK1.out; have := HJ11.out; have := HK3.out; omega⟩, ⟨by (with_reducible repeat (first | apply Kd.R_alloc | apply Kd.R_drewN | apply Kd.R_drew)); exact HO_103000.out⟩, ⟨by (with_reducible repeat (first | refine blk_drewN ?_ _ | refine blk_drew ?_ | refine blk_alloc ?_ _)); exact BK101.out⟩, ⟨by (with_reducible repeat (first | refine blk_drewN ?_ _ | refine blk_drew ?_ | refine blk_alloc ?_ _)); exact BK102.out⟩, ⟨by repeat (first | (with_reducible first | exact HB.out | apply below_alloc | apply pw_below_drewN | apply below_drew1 | refine below_set ?_ GE101.out | refine below_set ?_ GE102.out) | exact HB.out)⟩⟩
                            · rw [if_neg c20] at H
                              have c20b0 : ((bt a0 x6_3) == 10) = false := beq_eq_false_iff_ne.mpr c20
                              have c20b1 : ((bt a0 x6_3) != 10) = true := bne_iff_ne.mpr c20
                              have H' := Aside0.mk H
                              clear H
                              have p19 : 0 ≤ (x6_3 : Int) := of_decide_eq_true (by first | (with_reducible assumption) | assumption)
                              have q19 : x6_3 < (a0.size : Int) := of_decide_eq_true (by first | (with_reducible assumption) | assumption)
                              have hx19 := bt_at a0 x6_3
                              replace p19 := eq_true p19
                              replace q19 := eq_true q19
                              go_wp2
                              go_roundg k3
                              case measure => have := HK1.out; have := HJ11.out; have := HK3.out; omega
                              case rel => exact ⟨(wrap64 (x6_3 + 1)), (by first | rfl | (simp; done) | (simp [*]; done)), H', ⟨by have := HK1.out; have := HJ11.out; have := HK3.out; omega⟩, ⟨by (with_reducible repeat (first | apply Kd.R_alloc | apply Kd.R_drewN | apply Kd.R_drew)); exact HO_103000.out⟩, ⟨by (with_reducible repeat (first | refine blk_drewN ?_ _ | refine blk_drew ?_ | refine blk_alloc ?_ _)); exact BK101.out⟩, ⟨by (with_reducible repeat (first | refine blk_drewN ?_ _ | refine blk_drew ?_ | refine blk_alloc ?_ _)); exact BK102.out⟩, ⟨by repeat (first | (with_reducible first | exact HB.out | apply below_alloc | apply pw_below_drewN | apply below_drew1 | refine below_set ?_ GE101.out | refine below_set ?_ GE102.out) | exact HB.out)⟩⟩
                          · rw [if_neg c18] at H
                            exact absurd H (by simp)
                        · rw [if_neg c17] at H
                          have c17b0 : decide (x6_3 < (a0.size : Int)) = false := decide_eq_false c17
                          clear c17
                          have H' := Aside0.mk H
                          clear H
                          go_wp2
                          go_roundg k3
                          case measure => have := HK1.out; have := HJ11.out; have := HK3.out; omega
                          case rel => exact ⟨(x6_3), (x102001_1), (x102002_1), (x103000_1), (u103000), (by first | rfl | (simp; done) | (simp [*]; done)), H', ⟨by have := HK1.out; have := HJ11.out; have := HK3.out; omega⟩, ⟨by (with_reducible repeat (first | apply Kd.R_alloc | apply Kd.R_drewN | apply Kd.R_drew)); exact HO_103000.out⟩, ⟨by (with_reducible repeat (first | refine blk_drewN ?_ _ | refine blk_drew ?_ | refine blk_alloc ?_ _)); exact BK101.out⟩, ⟨by (with_reducible repeat (first | refine blk_drewN ?_ _ | refine blk_drew ?_ | refine blk_alloc ?_ _)); exact BK102.out⟩, ⟨by repeat (first | (with_reducible first | exact HB.out | apply below_alloc | apply pw_below_drewN | apply below_drew1 | refine below_set ?_ GE101.out | refine below_set ?_ GE102.out) | exact HB.out)⟩⟩
                  · rw [if_neg c16] at H
                    have c16b0 : ((bt a0 x4_1) == 35) = false := beq_eq_false_iff_ne.mpr c16
                    have c16b1 : ((bt a0 x4_1) != 35) = true := bne_iff_ne.mpr c16
                    by_cases c21 : (bt a0 x4_1) = 61
                    · rw [if_pos c21] at H
                      have c21b0 : ((bt a0 x4_1) == 61) = true := beq_iff_eq.mpr c21
                      have c21b1 : ((bt a0 x4_1) != 61) = false := bne_eq_false_iff_eq.mpr c21
                      clear c21
                      by_cases c22 : x103000_1.length < 4398046511104
                      · rw [if_pos c22] at H
                        have LMc22 := Aside0.mk c22
                        clear c22
                        obtain ⟨y103, hy103⟩ : ∃ y_ : List (S36), y_ = (x103000_1 ++ [(⟨3, (⟨#[61]⟩ : ByteArray), x4_1⟩ : S36)]) := ⟨_, rfl⟩
                        replace H : (topiaristref01_Tokens.l0 kj11 a0 (wrap64 (x4_1 + 1)) y103 0 0) = some (r1, r2, r3) := by first | (rw [hy103]; with_reducible exact H) | (have H2_ := (Option.bind_some _ _).symm.trans H; rw [hy103]; with_reducible exact H2_) | (have H2_ := (Option.bind_some _ _).symm.trans H; with_reducible exact H2_) | with_reducible exact H | (rw [hy103]; exact H) | exact H
                        have Ny103 := Aside0.mk hy103
                        clear hy103
                        have H' := Aside0.mk H
                        clear H
                        have hnb23 := NB102_101.out
                        have hnc23 := NB101_102.out
                        have hcz24_0 : wc.cell? ⟨gb102, 0, none⟩ = some (u103000) := (blk_cell BK102.out 0).trans rfl
                        have hcz24_1 : wc.cell? ⟨gb102, 1, none⟩ = some (.int .i64 0) := (blk_cell BK102.out 1).trans rfl
                        have hcz24_2 : wc.cell? ⟨gb102, 2, none⟩ = some (.int .i64 0) := (blk_cell BK102.out 2).trans rfl
                        have hfz24_0 := blk_frozen BK102.out 0
                        have hfz24_1 := blk_frozen BK102.out 1
                        have hfz24_2 := blk_frozen BK102.out 2
                        go_wp2_with (first | ((with_reducible refine gate_builtin (b := .append) (xs := #[.tmp 53, .tmp 56]) rfl ?_); at_builtin; refine Kd.R_append k36 (w0 := w) w.heap.size rfl (.tmp 53) (.tmp 56) 23 36 (.agg #[(.int .i64 0), (.string ⟨#[]⟩), (.int .i64 0)]) 32 rfl Try.underlying23 info36 rfl (by decide) (by omega) u103000 x103000_1 (⟨3, (⟨#[61]⟩ : ByteArray), x4_1⟩ : S36) [.int .i64 3, .string (⟨#[61]⟩ : ByteArray), .int .i64 x4_1] (fun _ => True) (fun _ => False) rfl rfl ?aP (fun _ hk => hk.elim) ?aF ?aO ?aB ?aS ?aL ?_; (case aP => exact k36_mkM _ _ _ (⟨3, (⟨#[61]⟩ : ByteArray), x4_1⟩ : S36)); (case aB => exact (by repeat (first | (with_reducible first | exact HB.out | apply below_alloc | apply pw_below_drewN | apply below_drew1 | refine below_set ?_ GE101.out | refine below_set ?_ GE102.out) | exact HB.out))); (case aF => exact (fun _ _ => trivial)); (case aO => exact (by (with_reducible repeat (first | apply Kd.R_alloc | apply Kd.R_drewN | apply Kd.R_drew)); exact HO_103000.out)); (case aS => exact (below_size (by repeat (first | (with_reducible first | exact HB.out | apply below_alloc | apply pw_below_drewN | apply below_drew1 | refine below_set ?_ GE101.out | refine below_set ?_ GE102.out) | exact HB.out)))); (case aL => have := LMc22.out; omega); intro v104 w25 ho hb hg hat; rw [← Ny103.out] at ho; have n0_ := Aside0.mk (blk_grown (g := gb101) (o := .cells #[.slice none 0 0, .int .i64 x102001_1, .int .i64 x102002_1] 30 (0, 0)) (by (with_reducible repeat (first | refine blk_drewN ?_ _ | refine blk_drew ?_ | refine blk_alloc ?_ _)); exact BK101.out) hg (Kd.R_ne HO_103000.out BK101.out (by decide))); have n1_ := Aside0.mk (blk_grown (g := gb102) (o := .cells #[u103000, .int .i64 0, .int .i64 0] 30 (0, 0)) (by (with_reducible repeat (first | refine blk_drewN ?_ _ | refine blk_drew ?_ | refine blk_alloc ?_ _)); exact BK102.out) hg (Kd.R_ne HO_103000.out BK102.out (by decide))); have n2_ := Aside0.mk (hb); have n3_ := Aside0.mk (ho); clear BK101; clear BK102; clear HB; clear HO_103000; have BK101 := n0_; have BK102 := n1_; have HB := n2_; have HO105 := n3_; clear n0_ n1_ n2_ n3_; clear ho hb hg hat; obtain ⟨Ao26, co26, eo26⟩ := Kd.R_slice HO105.out; subst eo26; have hcz27_0 : w25.cell? ⟨gb102, 0, none⟩ = some (u103000) := (blk_cell BK102.out 0).trans rfl; have hcz27_1 : w25.cell? ⟨gb102, 1, none⟩ = some (.int .i64 0) := (blk_cell BK102.out 1).trans rfl; have hcz27_2 : w25.cell? ⟨gb102, 2, none⟩ = some (.int .i64 0) := (blk_cell BK102.out 2).trans rfl; have hfz27_0 := blk_frozen BK102.out 0; have hfz27_1 := blk_frozen BK102.out 1; have hfz27_2 := blk_frozen BK102.out 2))
                        go_roundg kj11
                        case measure => have := HK1.out; have := HJ11.out; omega
                        case rel => exact ⟨((wrap64 (x4_1 + 1))), (x102001_1), (x102002_1), (y103), (.slice Ao26 y103.length co26), (by first | rfl | (simp; done) | (simp [*]; done)), H', ⟨by have := HK1.out; have := HJ11.out; omega⟩, ⟨by (with_reducible repeat (first | apply Kd.R_alloc | apply Kd.R_drewN | apply Kd.R_drew)); exact Kd.R_mono (Kd.R_far (p := ⟨gb102, 0, none⟩) (Kd.R_types HO105.out BK102.out (by decide)) (fun _ hk => hk.2) (.slice Ao26 y103.length co26)) (fun _ hk => trivial)⟩, ⟨by (with_reducible repeat (first | refine blk_drewN ?_ _ | refine blk_drew ?_ | refine blk_alloc ?_ _)); refine blk_far ?_ NB101_102.out _; (with_reducible repeat (first | refine blk_drewN ?_ _ | refine blk_drew ?_ | refine blk_alloc ?_ _)); exact BK101.out⟩, ⟨by (with_reducible repeat (first | refine blk_drewN ?_ _ | refine blk_drew ?_ | refine blk_alloc ?_ _)); refine blk_put (cs := #[u103000, .int .i64 0, .int .i64 0]) ?_ 0 _ rfl; (with_reducible repeat (first | refine blk_drewN ?_ _ | refine blk_drew ?_ | refine blk_alloc ?_ _)); exact BK102.out⟩, ⟨by repeat (first | (with_reducible first | exact HB.out | apply below_alloc | apply pw_below_drewN | apply below_drew1 | refine below_set ?_ GE101.out | refine below_set ?_ GE102.out) | exact HB.out)⟩⟩
                      · rw [if_neg c22] at H
                        exact absurd H (by simp)
                    · rw [if_neg c21] at H
                      have c21b0 : ((bt a0 x4_1) == 61) = false := beq_eq_false_iff_ne.mpr c21
                      have c21b1 : ((bt a0 x4_1) != 61) = true := bne_iff_ne.mpr c21
                      by_cases c28 : (bt a0 x4_1) = 124
                      · rw [if_pos c28] at H
                        have c28b0 : ((bt a0 x4_1) == 124) = true := beq_iff_eq.mpr c28
                        have c28b1 : ((bt a0 x4_1) != 124) = false := bne_eq_false_iff_eq.mpr c28
                        clear c28
                        by_cases c29 : x103000_1.length < 4398046511104
                        · rw [if_pos c29] at H
                          have LMc29 := Aside0.mk c29
                          clear c29
                          obtain ⟨y106, hy106⟩ : ∃ y_ : List (S36), y_ = (x103000_1 ++ [(⟨4, (⟨#[124]⟩ : ByteArray), x4_1⟩ : S36)]) := ⟨_, rfl⟩
                          replace H : (topiaristref01_Tokens.l0 kj11 a0 (wrap64 (x4_1 + 1)) y106 0 0) = some (r1, r2, r3) := by first | (rw [hy106]; with_reducible exact H) | (have H2_ := (Option.bind_some _ _).symm.trans H; rw [hy106]; with_reducible exact H2_) | (have H2_ := (Option.bind_some _ _).symm.trans H; with_reducible exact H2_) | with_reducible exact H | (rw [hy106]; exact H) | exact H
                          have Ny106 := Aside0.mk hy106
                          clear hy106
                          have H' := Aside0.mk H
                          clear H
                          have hnb30 := NB102_101.out
                          have hnc30 := NB101_102.out
                          have hcz31_0 : wc.cell? ⟨gb102, 0, none⟩ = some (u103000) := (blk_cell BK102.out 0).trans rfl
                          have hcz31_1 : wc.cell? ⟨gb102, 1, none⟩ = some (.int .i64 0) := (blk_cell BK102.out 1).trans rfl
                          have hcz31_2 : wc.cell? ⟨gb102, 2, none⟩ = some (.int .i64 0) := (blk_cell BK102.out 2).trans rfl
                          have hfz31_0 := blk_frozen BK102.out 0
                          have hfz31_1 := blk_frozen BK102.out 1
                          have hfz31_2 := blk_frozen BK102.out 2
                          go_wp2_with (first | ((with_reducible refine gate_builtin (b := .append) (xs := #[.tmp 63, .tmp 66]) rfl ?_); at_builtin; refine Kd.R_append k36 (w0 := w) w.heap.size rfl (.tmp 63) (.tmp 66) 23 36 (.agg #[(.int .i64 0), (.string ⟨#[]⟩), (.int .i64 0)]) 32 rfl Try.underlying23 info36 rfl (by decide) (by omega) u103000 x103000_1 (⟨4, (⟨#[124]⟩ : ByteArray), x4_1⟩ : S36) [.int .i64 4, .string (⟨#[124]⟩ : ByteArray), .int .i64 x4_1] (fun _ => True) (fun _ => False) rfl rfl ?aP (fun _ hk => hk.elim) ?aF ?aO ?aB ?aS ?aL ?_; (case aP => exact k36_mkM _ _ _ (⟨4, (⟨#[124]⟩ : ByteArray), x4_1⟩ : S36)); (case aB => exact (by repeat (first | (with_reducible first | exact HB.out | apply below_alloc | apply pw_below_drewN | apply below_drew1 | refine below_set ?_ GE101.out | refine below_set ?_ GE102.out) | exact HB.out))); (case aF => exact (fun _ _ => trivial)); (case aO => exact (by (with_reducible repeat (first | apply Kd.R_alloc | apply Kd.R_drewN | apply Kd.R_drew)); exact HO_103000.out)); (case aS => exact (below_size (by repeat (first | (with_reducible first | exact HB.out | apply below_alloc | apply pw_below_drewN | apply below_drew1 | refine below_set ?_ GE101.out | refine below_set ?_ GE102.out) | exact HB.out)))); (case aL => have := LMc29.out; omega); intro v107 w32 ho hb hg hat; rw [← Ny106.out] at ho; have n0_ := Aside0.mk (blk_grown (g := gb101) (o := .cells #[.slice none 0 0, .int .i64 x102001_1, .int .i64 x102002_1] 30 (0, 0)) (by (with_reducible repeat (first | refine blk_drewN ?_ _ | refine blk_drew ?_ | refine blk_alloc ?_ _)); exact BK101.out) hg (Kd.R_ne HO_103000.out BK101.out (by decide))); have n1_ := Aside0.mk (blk_grown (g := gb102) (o := .cells #[u103000, .int .i64 0, .int .i64 0] 30 (0, 0)) (by (with_reducible repeat (first | refine blk_drewN ?_ _ | refine blk_drew ?_ | refine blk_alloc ?_ _)); exact BK102.out) hg (Kd.R_ne HO_103000.out BK102.out (by decide))); have n2_ := Aside0.mk (hb); have n3_ := Aside0.mk (ho); clear BK101; clear BK102; clear HB; clear HO_103000; have BK101 := n0_; have BK102 := n1_; have HB := n2_; have HO108 := n3_; clear n0_ n1_ n2_ n3_; clear ho hb hg hat; obtain ⟨Ao33, co33, eo33⟩ := Kd.R_slice HO108.out; subst eo33; have hcz34_0 : w32.cell? ⟨gb102, 0, none⟩ = some (u103000) := (blk_cell BK102.out 0).trans rfl; have hcz34_1 : w32.cell? ⟨gb102, 1, none⟩ = some (.int .i64 0) := (blk_cell BK102.out 1).trans rfl; have hcz34_2 : w32.cell? ⟨gb102, 2, none⟩ = some (.int .i64 0) := (blk_cell BK102.out 2).trans rfl; have hfz34_0 := blk_frozen BK102.out 0; have hfz34_1 := blk_frozen BK102.out 1; have hfz34_2 := blk_frozen BK102.out 2))
                          go_roundg kj11
                          case measure => have := HK1.out; have := HJ11.out; omega
                          case rel => exact ⟨((wrap64 (x4_1 + 1))), (x102001_1), (x102002_1), (y106), (.slice Ao33 y106.length co33), (by first | rfl | (simp; done) | (simp [*]; done)), H', ⟨by have := HK1.out; have := HJ11.out; omega⟩, ⟨by (with_reducible repeat (first | apply Kd.R_alloc | apply Kd.R_drewN | apply Kd.R_drew)); exact Kd.R_mono (Kd.R_far (p := ⟨gb102, 0, none⟩) (Kd.R_types HO108.out BK102.out (by decide)) (fun _ hk => hk.2) (.slice Ao33 y106.length co33)) (fun _ hk => trivial)⟩, ⟨by (with_reducible repeat (first | refine blk_drewN ?_ _ | refine blk_drew ?_ | refine blk_alloc ?_ _)); refine blk_far ?_ NB101_102.out _; (with_reducible repeat (first | refine blk_drewN ?_ _ | refine blk_drew ?_ | refine blk_alloc ?_ _)); exact BK101.out⟩, ⟨by (with_reducible repeat (first | refine blk_drewN ?_ _ | refine blk_drew ?_ | refine blk_alloc ?_ _)); refine blk_put (cs := #[u103000, .int .i64 0, .int .i64 0]) ?_ 0 _ rfl; (with_reducible repeat (first | refine blk_drewN ?_ _ | refine blk_drew ?_ | refine blk_alloc ?_ _)); exact BK102.out⟩, ⟨by repeat (first | (with_reducible first | exact HB.out | apply below_alloc | apply pw_below_drewN | apply below_drew1 | refine below_set ?_ GE101.out | refine below_set ?_ GE102.out) | exact HB.out)⟩⟩
                        · rw [if_neg c29] at H
                          exact absurd H (by simp)
                      · rw [if_neg c28] at H
                        have c28b0 : ((bt a0 x4_1) == 124) = false := beq_eq_false_iff_ne.mpr c28
                        have c28b1 : ((bt a0 x4_1) != 124) = true := bne_iff_ne.mpr c28
                        by_cases c35 : (bt a0 x4_1) = 59
                        · rw [if_pos c35] at H
                          have c35b0 : ((bt a0 x4_1) == 59) = true := beq_iff_eq.mpr c35
                          have c35b1 : ((bt a0 x4_1) != 59) = false := bne_eq_false_iff_eq.mpr c35
                          clear c35
                          by_cases c36 : x103000_1.length < 4398046511104
                          · rw [if_pos c36] at H
                            have LMc36 := Aside0.mk c36
                            clear c36
                            obtain ⟨y109, hy109⟩ : ∃ y_ : List (S36), y_ = (x103000_1 ++ [(⟨5, (⟨#[59]⟩ : ByteArray), x4_1⟩ : S36)]) := ⟨_, rfl⟩
                            replace H : (topiaristref01_Tokens.l0 kj11 a0 (wrap64 (x4_1 + 1)) y109 0 0) = some (r1, r2, r3) := by first | (rw [hy109]; with_reducible exact H) | (have H2_ := (Option.bind_some _ _).symm.trans H; rw [hy109]; with_reducible exact H2_) | (have H2_ := (Option.bind_some _ _).symm.trans H; with_reducible exact H2_) | with_reducible exact H | (rw [hy109]; exact H) | exact H
                            have Ny109 := Aside0.mk hy109
                            clear hy109
                            have H' := Aside0.mk H
                            clear H
                            have hnb37 := NB102_101.out
                            have hnc37 := NB101_102.out
                            have hcz38_0 : wc.cell? ⟨gb102, 0, none⟩ = some (u103000) := (blk_cell BK102.out 0).trans rfl
                            have hcz38_1 : wc.cell? ⟨gb102, 1, none⟩ = some (.int .i64 0) := (blk_cell BK102.out 1).trans rfl
                            have hcz38_2 : wc.cell? ⟨gb102, 2, none⟩ = some (.int .i64 0) := (blk_cell BK102.out 2).trans rfl
                            have hfz38_0 := blk_frozen BK102.out 0
                            have hfz38_1 := blk_frozen BK102.out 1
                            have hfz38_2 := blk_frozen BK102.out 2
                            go_wp2_with (first | ((with_reducible refine gate_builtin (b := .append) (xs := #[.tmp 73, .tmp 76]) rfl ?_); at_builtin; refine Kd.R_append k36 (w0 := w) w.heap.size rfl (.tmp 73) (.tmp 76) 23 36 (.agg #[(.int .i64 0), (.string ⟨#[]⟩), (.int .i64 0)]) 32 rfl Try.underlying23 info36 rfl (by decide) (by omega) u103000 x103000_1 (⟨5, (⟨#[59]⟩ : ByteArray), x4_1⟩ : S36) [.int .i64 5, .string (⟨#[59]⟩ : ByteArray), .int .i64 x4_1] (fun _ => True) (fun _ => False) rfl rfl ?aP (fun _ hk => hk.elim) ?aF ?aO ?aB ?aS ?aL ?_; (case aP => exact k36_mkM _ _ _ (⟨5, (⟨#[59]⟩ : ByteArray), x4_1⟩ : S36)); (case aB => exact (by repeat (first | (with_reducible first | exact HB.out | apply below_alloc | apply pw_below_drewN | apply below_drew1 | refine below_set ?_ GE101.out | refine below_set ?_ GE102.out) | exact HB.out))); (case aF => exact (fun _ _ => trivial)); (case aO => exact (by (with_reducible repeat (first | apply Kd.R_alloc | apply Kd.R_drewN | apply Kd.R_drew)); exact HO_103000.out)); (case aS => exact (below_size (by repeat (first | (with_reducible first | exact HB.out | apply below_alloc | apply pw_below_drewN | apply below_drew1 | refine below_set ?_ GE101.out | refine below_set ?_ GE102.out) | exact HB.out)))); (case aL => have := LMc36.out; omega); intro v110 w39 ho hb hg hat; rw [← Ny109.out] at ho; have n0_ := Aside0.mk (blk_grown (g := gb101) (o := .cells #[.slice none 0 0, .int .i64 x102001_1, .int .i64 x102002_1] 30 (0, 0)) (by (with_reducible repeat (first | refine blk_drewN ?_ _ | refine blk_drew ?_ | refine blk_alloc ?_ _)); exact BK101.out) hg (Kd.R_ne HO_103000.out BK101.out (by decide))); have n1_ := Aside0.mk (blk_grown (g := gb102) (o := .cells #[u103000, .int .i64 0, .int .i64 0] 30 (0, 0)) (by (with_reducible repeat (first | refine blk_drewN ?_ _ | refine blk_drew ?_ | refine blk_alloc ?_ _)); exact BK102.out) hg (Kd.R_ne HO_103000.out BK102.out (by decide))); have n2_ := Aside0.mk (hb); have n3_ := Aside0.mk (ho); clear BK101; clear BK102; clear HB; clear HO_103000; have BK101 := n0_; have BK102 := n1_; have HB := n2_; have HO111 := n3_; clear n0_ n1_ n2_ n3_; clear ho hb hg hat; obtain ⟨Ao40, co40, eo40⟩ := Kd.R_slice HO111.out; subst eo40; have hcz41_0 : w39.cell? ⟨gb102, 0, none⟩ = some (u103000) := (blk_cell BK102.out 0).trans rfl; have hcz41_1 : w39.cell? ⟨gb102, 1, none⟩ = some (.int .i64 0) := (blk_cell BK102.out 1).trans rfl; have hcz41_2 : w39.cell? ⟨gb102, 2, none⟩ = some (.int .i64 0) := (blk_cell BK102.out 2).trans rfl; have hfz41_0 := blk_frozen BK102.out 0; have hfz41_1 := blk_frozen BK102.out 1; have hfz41_2 := blk_frozen BK102.out 2))
                            go_roundg kj11
                            case measure => have := HK1.out; have := HJ11.out; omega
                            case rel => exact ⟨((wrap64 (x4_1 + 1))), (x102001_1), (x102002_1), (y109), (.slice Ao40 y109.length co40), (by first | rfl | (simp; done) | (simp [*]; done)), H', ⟨by have := HK1.out; have := HJ11.out; omega⟩, ⟨by (with_reducible repeat (first | apply Kd.R_alloc | apply Kd.R_drewN | apply Kd.R_drew)); exact Kd.R_mono (Kd.R_far (p := ⟨gb102, 0, none⟩) (Kd.R_types HO111.out BK102.out (by decide)) (fun _ hk => hk.2) (.slice Ao40 y109.length co40)) (fun _ hk => trivial)⟩, ⟨by (with_reducible repeat (first | refine blk_drewN ?_ _ | refine blk_drew ?_ | refine blk_alloc ?_ _)); refine blk_far ?_ NB101_102.out _; (with_reducible repeat (first | refine blk_drewN ?_ _ | refine blk_drew ?_ | refine blk_alloc ?_ _)); exact BK101.out⟩, ⟨by (with_reducible repeat (first | refine blk_drewN ?_ _ | refine blk_drew ?_ | refine blk_alloc ?_ _)); refine blk_put (cs := #[u103000, .int .i64 0, .int .i64 0]) ?_ 0 _ rfl; (with_reducible repeat (first | refine blk_drewN ?_ _ | refine blk_drew ?_ | refine blk_alloc ?_ _)); exact BK102.out⟩, ⟨by repeat (first | (with_reducible first | exact HB.out | apply below_alloc | apply pw_below_drewN | apply below_drew1 | refine below_set ?_ GE101.out | refine below_set ?_ GE102.out) | exact HB.out)⟩⟩
                          · rw [if_neg c36] at H
                            exact absurd H (by simp)
                        · rw [if_neg c35] at H
                          have c35b0 : ((bt a0 x4_1) == 59) = false := beq_eq_false_iff_ne.mpr c35
                          have c35b1 : ((bt a0 x4_1) != 59) = true := bne_iff_ne.mpr c35
                          replace H := Option.bind_eq_some_iff.mp H
                          obtain ⟨t112, A420, H⟩ := H
                          replace H : (if t112 = true then (topiaristref01_Tokens.l2 kj11 a0 x4_1 (wrap64 (x4_1 + 1)) x103000_1 0 0) else (if (bt a0 x4_1) = 39 then (topiaristref01_Tokens.l3 kj11 a0 x4_1 (wrap64 (x4_1 + 1)) x103000_1 0 0) else (some (([] : List (S36)), 11, x4_1)))) = some (r1, r2, r3) := H
                          have A42 := Aside0.mk A420
                          clear A420
                          by_cases c43 : t112 = true
                          · subst c43
                            have H1 : (topiaristref01_Tokens.l2 kj11 a0 x4_1 (wrap64 (x4_1 + 1)) x103000_1 0 0) = some (r1, r2, r3) := by rw [if_pos rfl] at H; exact H
                            clear H
                            have H := H1
                            clear H1
                            have H' := Aside0.mk H
                            clear H
                            go_wp2_with (first | ((with_reducible refine gate_callee (f := 20) rfl ?_); refine goesL_ (some 81) rfl rfl Try.func20 (by kernel_rfl) rfl #[.int .u8 (bt a0 x4_1)] rfl (by (try simp only [List.map_toArray, List.map_cons, List.map_nil]); first | done | rfl | (simp only [List.length_drop, List.length_take]; rfl)) ?_; (with_reducible refine (topiaristref01_letter.calls (bt a0 x4_1) true _ A42.out).mono ?_); rintro e w' ⟨rfl, ⟨nd, rfl⟩⟩; refine ⟨_, rfl, ?_⟩))
                            go_loopg [6] kj11 (fun kq v6 w' => ∃ (x6_3 : Int), v6 = .int .i64 x6_3 ∧ Aside0 (topiaristref01_Tokens.l2 kq a0 x4_1 x6_3 x103000_1 0 0 = some (r1, r2, r3)) ∧ Aside0 (kq ≤ kj11) ∧ Aside0 (Kd.R k36 36 w' w.heap.size (fun _ => True) u103000 x103000_1) ∧ Aside0 (w'.heap[gb101]? = some (.cells #[(.slice none 0 0), .int .i64 x102001_1, .int .i64 x102002_1] 30 (0, 0))) ∧ Aside0 (w'.heap[gb102]? = some (.cells #[u103000, .int .i64 0, .int .i64 0] 30 (0, 0))) ∧ Aside0 (Below w.heap.size w w'))
                            case atStart => exact ⟨((wrap64 (x4_1 + 1))), (by first | rfl | (simp; done) | (simp [*]; done)), H', ⟨Nat.le_refl _⟩, ⟨by (with_reducible repeat (first | apply Kd.R_alloc | apply Kd.R_drewN | apply Kd.R_drew)); exact HO_103000.out⟩, ⟨by (with_reducible repeat (first | refine blk_drewN ?_ _ | refine blk_drew ?_ | refine blk_alloc ?_ _)); exact BK101.out⟩, ⟨by (with_reducible repeat (first | refine blk_drewN ?_ _ | refine blk_drew ?_ | refine blk_alloc ?_ _)); exact BK102.out⟩, ⟨by repeat (first | (with_reducible first | exact HB.out | apply below_alloc | apply pw_below_drewN | apply below_drew1 | refine below_set ?_ GE101.out | refine below_set ?_ GE102.out) | exact HB.out)⟩⟩
                            case round =>
                              clear H'
                              try clear c1
                              try clear p1
                              try clear q1
                              try clear hx1
                              try clear c2
                              try clear c2b0
                              try clear c2b1
                              try clear p2
                              try clear c3
                              try clear c4
                              try clear p6
                              try clear c7
                              try clear c9
                              try clear c9b0
                              try clear c10
                              try clear c10b0
                              try clear c11
                              try clear p11
                              try clear q11
                              try clear hx11
                              try clear c13
                              try clear c13b0
                              try clear c13b1
                              try clear c14
                              try clear c14b0
                              try clear c14b1
                              try clear c15
                              try clear c16
                              try clear c16b0
                              try clear c16b1
                              try clear c17
                              try clear c17b0
                              try clear c18
                              try clear c18b0
                              try clear p19
                              try clear q19
                              try clear hx19
                              try clear c20
                              try clear c20b0
                              try clear c20b1
                              try clear c21
                              try clear c21b0
                              try clear c21b1
                              try clear c22
                              try clear c23
                              try clear c28
                              try clear c28b0
                              try clear c28b1
                              try clear c29
                              try clear c30
                              try clear c35
                              try clear c35b0
                              try clear c35b1
                              try clear c36
                              try clear c37
                              try clear c43
                              try clear hcz24_0
                              try clear hcz24_1
                              try clear hcz24_2
                              try clear hcz27_0
                              try clear hcz27_1
                              try clear hcz27_2
                              try clear hcz31_0
                              try clear hcz31_1
                              try clear hcz31_2
                              try clear hcz34_0
                              try clear hcz34_1
                              try clear hcz34_2
                              try clear hcz38_0
                              try clear hcz38_1
                              try clear hcz38_2
                              try clear hcz41_0
                              try clear hcz41_1
                              try clear hcz41_2
                              try clear hcz4_0
                              try clear hcz4_1
                              try clear hcz4_2
                              try clear hcz8_0
                              try clear hcz8_1
                              try clear hcz8_2
                              try clear hfz24_0
                              try clear hfz24_1
                              try clear hfz24_2
                              try clear hfz27_0
                              try clear hfz27_1
                              try clear hfz27_2
                              try clear hfz31_0
                              try clear hfz31_1
                              try clear hfz31_2
                              try clear hfz34_0
                              try clear hfz34_1
                              try clear hfz34_2
                              try clear hfz38_0
                              try clear hfz38_1
                              try clear hfz38_2
                              try clear hfz41_0
                              try clear hfz41_1
                              try clear hfz41_2
                              try clear hfz4_0
                              try clear hfz4_1
                              try clear hfz4_2
                              try clear hfz8_0
                              try clear hfz8_1
                              try clear hfz8_2
                              try clear p1
                              try clear p11
                              try clear p19
                              try clear p2
                              try clear p6
                              try clear q1
                              try clear q11
                              try clear q19
                              obtain ⟨x6_3, rfl, HA, HK3, HO_103000, BK101, BK102, HB⟩ := hrel
                              cases gk with
                              | zero => exact absurd HA.out (by simp [topiaristref01_Tokens.l2])
                              | succ k3 =>
                                have H := HA.out
                                clear HA
                                simp only [topiaristref01_Tokens.l2] at H
                                by_cases c44 : x6_3 < (a0.size : Int)
                                · rw [if_pos c44] at H
                                  have c44b0 : decide (x6_3 < (a0.size : Int)) = true := decide_eq_true c44
                                  clear c44
                                  by_cases c45 : 0 ≤ x6_3
                                  · rw [if_pos c45] at H
                                    have c45b0 : decide (0 ≤ x6_3) = true := decide_eq_true c45
                                    clear c45
                                    replace H := Option.bind_eq_some_iff.mp H
                                    obtain ⟨t113, A470, H⟩ := H
                                    replace H : (if t113 = true then (topiaristref01_Tokens.l2 k3 a0 x4_1 (wrap64 (x6_3 + 1)) x103000_1 0 0) else (if 0 ≤ x4_1 then (if x4_1 ≤ x6_3 then (if x6_3 ≤ (a0.size : Int) then ((topiaristref01_IsName.f k3 (a0.extract (x4_1 : Int).toNat (x6_3 : Int).toNat)).bind fun t114 => (if t114 = true then (if x103000_1.length < 4398046511104 then (topiaristref01_Tokens.l0 k3 a0 x6_3 (x103000_1 ++ [(⟨1, a0.extract (x4_1 : Int).toNat (x6_3 : Int).toNat, x4_1⟩ : S36)]) 0 0) else (none)) else (some (([] : List (S36)), 11, x4_1)))) else (none)) else (none)) else (none))) = some (r1, r2, r3) := H
                                    have A47 := Aside0.mk A470
                                    clear A470
                                    by_cases c48 : t113 = true
                                    · subst c48
                                      have H1 : (topiaristref01_Tokens.l2 k3 a0 x4_1 (wrap64 (x6_3 + 1)) x103000_1 0 0) = some (r1, r2, r3) := by rw [if_pos rfl] at H; exact H
                                      clear H
                                      have H := H1
                                      clear H1
                                      have H' := Aside0.mk H
                                      clear H
                                      have p46 : 0 ≤ (x6_3 : Int) := of_decide_eq_true (by first | (with_reducible assumption) | assumption)
                                      have q46 : x6_3 < (a0.size : Int) := of_decide_eq_true (by first | (with_reducible assumption) | assumption)
                                      have hx46 := bt_at a0 x6_3
                                      replace p46 := eq_true p46
                                      replace q46 := eq_true q46
                                      go_wp2_with (first | (go_at_call 21; (with_reducible refine (topiaristref01_more.calls (bt a0 x6_3) true _ A47.out).mono ?_); rintro e w' ⟨rfl, ⟨nd, rfl⟩⟩))
                                      go_roundg k3
                                      case measure => have := HK1.out; have := HJ11.out; have := HK3.out; omega
                                      case rel => exact ⟨(wrap64 (x6_3 + 1)), (by first | rfl | (simp; done) | (simp [*]; done)), H', ⟨by have := HK1.out; have := HJ11.out; have := HK3.out; omega⟩, ⟨by (with_reducible repeat (first | apply Kd.R_alloc | apply Kd.R_drewN | apply Kd.R_drew)); exact HO_103000.out⟩, ⟨by (with_reducible repeat (first | refine blk_drewN ?_ _ | refine blk_drew ?_ | refine blk_alloc ?_ _)); exact BK101.out⟩, ⟨by (with_reducible repeat (first | refine blk_drewN ?_ _ | refine blk_drew ?_ | refine blk_alloc ?_ _)); exact BK102.out⟩, ⟨by repeat (first | (with_reducible first | exact HB.out | apply below_alloc | apply pw_below_drewN | apply below_drew1 | refine below_set ?_ GE101.out | refine below_set ?_ GE102.out) | exact HB.out)⟩⟩
                                    · replace c48 := Bool.eq_false_iff.mpr c48
                                      subst c48
                                      have H1 : (if 0 ≤ x4_1 then (if x4_1 ≤ x6_3 then (if x6_3 ≤ (a0.size : Int) then ((topiaristref01_IsName.f k3 (a0.extract (x4_1 : Int).toNat (x6_3 : Int).toNat)).bind fun t114 => (if t114 = true then (if x103000_1.length < 4398046511104 then (topiaristref01_Tokens.l0 k3 a0 x6_3 (x103000_1 ++ [(⟨1, a0.extract (x4_1 : Int).toNat (x6_3 : Int).toNat, x4_1⟩ : S36)]) 0 0) else (none)) else (some (([] : List (S36)), 11, x4_1)))) else (none)) else (none)) else (none)) = some (r1, r2, r3) := by rw [if_neg (show ¬ (false = true) by decide)] at H; exact H
                                      clear H
                                      have H := H1
                                      clear H1
                                      by_cases c49 : 0 ≤ x4_1
                                      · rw [if_pos c49] at H
                                        have c49b0 := eq_true c49
                                        have c49b1 : decide (0 ≤ x4_1) = true := decide_eq_true c49
                                        clear c49
                                        by_cases c50 : x4_1 ≤ x6_3
                                        · rw [if_pos c50] at H
                                          have c50b0 := eq_true c50
                                          have c50b1 : decide (x4_1 ≤ x6_3) = true := decide_eq_true c50
                                          clear c50
                                          by_cases c51 : x6_3 ≤ (a0.size : Int)
                                          · rw [if_pos c51] at H
                                            have c51b0 := eq_true c51
                                            have c51b1 : decide (x6_3 ≤ (a0.size : Int)) = true := decide_eq_true c51
                                            clear c51
                                            replace H := Option.bind_eq_some_iff.mp H
                                            obtain ⟨t114, A520, H⟩ := H
                                            replace H : (if t114 = true then (if x103000_1.length < 4398046511104 then (topiaristref01_Tokens.l0 k3 a0 x6_3 (x103000_1 ++ [(⟨1, a0.extract (x4_1 : Int).toNat (x6_3 : Int).toNat, x4_1⟩ : S36)]) 0 0) else (none)) else (some (([] : List (S36)), 11, x4_1))) = some (r1, r2, r3) := H
                                            have A52 := Aside0.mk A520
                                            clear A520
                                            by_cases c53 : t114 = true
                                            · subst c53
                                              have H1 : (if x103000_1.length < 4398046511104 then (topiaristref01_Tokens.l0 k3 a0 x6_3 (x103000_1 ++ [(⟨1, a0.extract (x4_1 : Int).toNat (x6_3 : Int).toNat, x4_1⟩ : S36)]) 0 0) else (none)) = some (r1, r2, r3) := by rw [if_pos rfl] at H; exact H
                                              clear H
                                              have H := H1
                                              clear H1
                                              have c54b0 := eq_true (of_decide_eq_true (by first | (with_reducible assumption) | assumption) : 0 ≤ x4_1)
                                              have c55b0 := eq_true (of_decide_eq_true (by first | (with_reducible assumption) | assumption) : x4_1 ≤ x6_3)
                                              have c56b0 := eq_true (of_decide_eq_true (by first | (with_reducible assumption) | assumption) : x6_3 ≤ (a0.size : Int))
                                              by_cases c57 : x103000_1.length < 4398046511104
                                              · rw [if_pos c57] at H
                                                have LMc57 := Aside0.mk c57
                                                clear c57
                                                obtain ⟨y115, hy115⟩ : ∃ y_ : List (S36), y_ = (x103000_1 ++ [(⟨1, a0.extract (x4_1 : Int).toNat (x6_3 : Int).toNat, x4_1⟩ : S36)]) := ⟨_, rfl⟩
                                                replace H : (topiaristref01_Tokens.l0 k3 a0 x6_3 y115 0 0) = some (r1, r2, r3) := by first | (rw [hy115]; with_reducible exact H) | (have H2_ := (Option.bind_some _ _).symm.trans H; rw [hy115]; with_reducible exact H2_) | (have H2_ := (Option.bind_some _ _).symm.trans H; with_reducible exact H2_) | with_reducible exact H | (rw [hy115]; exact H) | exact H
                                                have Ny115 := Aside0.mk hy115
                                                clear hy115
                                                have H' := Aside0.mk H
                                                clear H
                                                have p46 : 0 ≤ (x6_3 : Int) := of_decide_eq_true (by first | (with_reducible assumption) | assumption)
                                                have q46 : x6_3 < (a0.size : Int) := of_decide_eq_true (by first | (with_reducible assumption) | assumption)
                                                have hx46 := bt_at a0 x6_3
                                                replace p46 := eq_true p46
                                                replace q46 := eq_true q46
                                                try go_wp2_with (first | (go_at_call 21; (with_reducible refine (topiaristref01_more.calls (bt a0 x6_3) false _ A47.out).mono ?_); rintro e w' ⟨rfl, ⟨nd, rfl⟩⟩; (try (rw [drewN_self wr]; generalize hq_ : World.drewN wr _ = wr; have n0_ : Aside0 (Kd.R k36 36 wr w.heap.size (fun _ => True) u103000 x103000_1) := ⟨by rw [← hq_]; exact (by (with_reducible repeat (first | apply Kd.R_alloc | apply Kd.R_drewN | apply Kd.R_drew)); exact HO_103000.out)⟩; have n1_ : Aside0 (wr.heap[gb101]? = some (.cells #[.slice none 0 0, .int .i64 x102001_1, .int .i64 x102002_1] 30 (0, 0))) := ⟨by rw [← hq_]; exact (by (with_reducible repeat (first | refine blk_drewN ?_ _ | refine blk_drew ?_ | refine blk_alloc ?_ _)); exact BK101.out)⟩; have n2_ : Aside0 (wr.heap[gb102]? = some (.cells #[u103000, .int .i64 0, .int .i64 0] 30 (0, 0))) := ⟨by rw [← hq_]; exact (by (with_reducible repeat (first | refine blk_drewN ?_ _ | refine blk_drew ?_ | refine blk_alloc ?_ _)); exact BK102.out)⟩; have n3_ : Aside0 (Below w.heap.size w wr) := ⟨by rw [← hq_]; exact (by repeat (first | (with_reducible first | exact HB.out | apply below_alloc | apply pw_below_drewN | apply below_drew1 | refine below_set ?_ GE101.out | refine below_set ?_ GE102.out) | exact HB.out))⟩; clear HO_103000 BK101 BK102 HB hq_; have HO_103000 := n0_; have BK101 := n1_; have BK102 := n2_; have HB := n3_; clear n0_ n1_ n2_ n3_))) | ((with_reducible refine gate_callee (f := 14) rfl ?_); refine goesL_ (some 98) rfl rfl Try.func14 (by kernel_rfl) rfl #[.string (a0.extract (x4_1 : Int).toNat (x6_3 : Int).toNat)] rfl (by (try simp only [List.map_toArray, List.map_cons, List.map_nil]); first | done | rfl | (simp only [List.length_drop, List.length_take]; rfl)) ?_; (with_reducible refine (topiaristref01_IsName.calls k3 (a0.extract (x4_1 : Int).toNat (x6_3 : Int).toNat) true _ A52.out).mono ?_); rintro e w' ⟨rfl, ⟨nd, rfl⟩⟩; refine ⟨_, rfl, ?_⟩; (try (rw [drewN_self wr]; generalize hq_ : World.drewN wr _ = wr; have n0_ : Aside0 (Kd.R k36 36 wr w.heap.size (fun _ => True) u103000 x103000_1) := ⟨by rw [← hq_]; exact (by (with_reducible repeat (first | apply Kd.R_alloc | apply Kd.R_drewN | apply Kd.R_drew)); exact HO_103000.out)⟩; have n1_ : Aside0 (wr.heap[gb101]? = some (.cells #[.slice none 0 0, .int .i64 x102001_1, .int .i64 x102002_1] 30 (0, 0))) := ⟨by rw [← hq_]; exact (by (with_reducible repeat (first | refine blk_drewN ?_ _ | refine blk_drew ?_ | refine blk_alloc ?_ _)); exact BK101.out)⟩; have n2_ : Aside0 (wr.heap[gb102]? = some (.cells #[u103000, .int .i64 0, .int .i64 0] 30 (0, 0))) := ⟨by rw [← hq_]; exact (by (with_reducible repeat (first | refine blk_drewN ?_ _ | refine blk_drew ?_ | refine blk_alloc ?_ _)); exact BK102.out)⟩; have n3_ : Aside0 (Below w.heap.size w wr) := ⟨by rw [← hq_]; exact (by repeat (first | (with_reducible first | exact HB.out | apply below_alloc | apply pw_below_drewN | apply below_drew1 | refine below_set ?_ GE101.out | refine below_set ?_ GE102.out) | exact HB.out))⟩; clear HO_103000 BK101 BK102 HB hq_; have HO_103000 := n0_; have BK101 := n1_; have BK102 := n2_; have HB := n3_; clear n0_ n1_ n2_ n3_))))
                                                have n0_ := Aside0.mk (Kd.R_drew HO_103000.out)
                                                have n1_ := Aside0.mk (blk_drew BK101.out)
                                                have n2_ := Aside0.mk (blk_drew BK102.out)
                                                have n3_ := Aside0.mk (below_drew1 HB.out)
                                                clear HO_103000
                                                clear BK101
                                                clear BK102
                                                clear HB
                                                have HO_103000 := n0_
                                                have BK101 := n1_
                                                have BK102 := n2_
                                                have HB := n3_
                                                clear n0_ n1_ n2_ n3_
                                                refine start_ (n := 12) (S := fun w' => w'.cell? ⟨gb102, 0, none⟩ = some (u103000) ∧ w'.cell? ⟨gb102, 1, none⟩ = some (.int .i64 0) ∧ w'.cell? ⟨gb102, 2, none⟩ = some (.int .i64 0)) (ds := [11]) #[false, false, false, false, false, false, false, false, false, false, false, false] (by kernel_rfl) rfl rfl ⟨(blk_cell BK102.out 0).trans rfl, (blk_cell BK102.out 1).trans rfl, (blk_cell BK102.out 2).trans rfl⟩ (fun hHeld => ?_); refine with_tabW topiaristref01_Tokens.tab24 topiaristref01_Tokens.bits24 (fun HT_ HW_ => ?_)
                                                generalize wr.drew = w58 at HO_103000 BK101 BK102 HB hHeld ⊢
                                                refine pure_ (i := 0) (N := some 102) (v := ?_) (a' := ?_) #[true, false, false, false, false, false, false, false, false, false, false, false] rfl rfl (any_of HT_.out (by kernel_rfl)) (fun _ _ _ h => h) (Or.inl ⟨by rfl, ?_⟩) ?_ ?_
                                                rotate_left
                                                · intro w'
                                                  go_simp
                                                  with_reducible rfl
                                                rotate_left
                                                · simp only [Act.put, List.setIfInBounds_toArray, List.set_cons_zero, List.set_cons_succ, i64_w, i32_w]
                                                  rfl
                                                refine pure_ (i := 2) (N := some 104) (v := ?_) (a' := ?_) #[true, false, true, false, false, false, false, false, false, false, false, false] rfl rfl (any_of HT_.out (by kernel_rfl)) (fun _ _ _ h => h) (Or.inl ⟨by rfl, ?_⟩) ?_ ?_
                                                rotate_left
                                                · intro w'
                                                  go_simp
                                                  with_reducible rfl
                                                rotate_left
                                                · simp only [Act.put, List.setIfInBounds_toArray, List.set_cons_zero, List.set_cons_succ, i64_w, i32_w]
                                                  rfl
                                                refine pure_ (i := 3) (N := some 105) (v := ?_) (a' := ?_) #[true, false, true, true, false, false, false, false, false, false, false, false] rfl rfl (any_of HT_.out (by kernel_rfl)) (fun _ _ _ h => h) (Or.inl ⟨by rfl, ?_⟩) ?_ ?_
                                                rotate_left
                                                · intro w'
                                                  go_simp
                                                  with_reducible rfl
                                                rotate_left
                                                · simp only [Act.put, List.setIfInBounds_toArray, List.set_cons_zero, List.set_cons_succ, i64_w, i32_w]
                                                  rfl
                                                refine pure_ (i := 4) (N := some 106) (v := ?_) (a' := ?_) #[true, false, true, true, true, false, false, false, false, false, false, false] rfl rfl (any_of HT_.out (by kernel_rfl)) (fun _ _ _ h => h) (Or.inl ⟨by rfl, ?_⟩) ?_ ?_
                                                rotate_left
                                                · intro w'
                                                  go_simp
                                                  with_reducible rfl
                                                rotate_left
                                                · simp only [Act.put, List.setIfInBounds_toArray, List.set_cons_zero, List.set_cons_succ, i64_w, i32_w]
                                                  rfl
                                                refine pure_ (i := 5) (N := some 107) (v := ?_) (a' := ?_) #[true, false, true, true, true, true, false, false, false, false, false, false] rfl rfl (any_of HT_.out (by kernel_rfl)) (fun _ _ _ h => h) (Or.inl ⟨by rfl, ?_⟩) ?_ ?_
                                                rotate_left
                                                · intro w'
                                                  go_simp
                                                  with_reducible rfl
                                                rotate_left
                                                · simp only [Act.put, List.setIfInBounds_toArray, List.set_cons_zero, List.set_cons_succ, i64_w, i32_w]
                                                  rfl
                                                refine pure_ (i := 6) (N := some 108) (v := ?_) (a' := ?_) #[true, false, true, true, true, true, true, false, false, false, false, false] rfl rfl (any_of HT_.out (by kernel_rfl)) (fun _ _ _ h => h) (Or.inl ⟨by rfl, ?_⟩) ?_ ?_
                                                rotate_left
                                                · intro w'
                                                  go_simp
                                                  with_reducible rfl
                                                rotate_left
                                                · simp only [Act.put, List.setIfInBounds_toArray, List.set_cons_zero, List.set_cons_succ, i64_w, i32_w]
                                                  rfl
                                                refine pure_ (i := 7) (N := some 109) (v := ?_) (a' := ?_) #[true, false, true, true, true, true, true, true, false, false, false, false] rfl rfl (any_of HT_.out (by kernel_rfl)) (fun _ _ _ h => h) (Or.inl ⟨by rfl, ?_⟩) ?_ ?_
                                                rotate_left
                                                · intro w'
                                                  go_simp
                                                  with_reducible rfl
                                                rotate_left
                                                · simp only [Act.put, List.setIfInBounds_toArray, List.set_cons_zero, List.set_cons_succ, i64_w, i32_w]
                                                  rfl
                                                refine take_ (i := 1) (N := some 103) (v := ?_) (a' := ?_) #[true, true, true, true, true, true, true, true, false, false, false, false] rfl rfl (take_ofW HT_.out HW_.out (by kernel_rfl)) (fun _ _ _ h => h) (Or.inl ⟨by rfl, ?_⟩) hHeld ?_ ?_
                                                rotate_left
                                                · rintro w' ⟨s0, s1, s2⟩
                                                  go_simp
                                                  with_reducible rfl
                                                rotate_left
                                                · simp only [Act.put, List.setIfInBounds_toArray, List.set_cons_zero, List.set_cons_succ, i64_w, i32_w]
                                                  rfl
                                                refine one_ (i := 8) (N := some 110) #[true, true, true, true, true, true, true, true, true, false, false, false] rfl rfl (one_of HT_.out (by kernel_rfl)) (by decide) (fun K hK => ?_)
                                                refine value_ (w1 := ?_) (v := ?_) (by rfl) rfl ?_ ?_
                                                rotate_left 2
                                                · go_simp
                                                  constructor
                                                  · rfl
                                                  · rfl
                                                refine hK.out _ _ ⟨(blk_cell (blk_alloc BK102.out _) 0).trans rfl, (blk_cell (blk_alloc BK102.out _) 1).trans rfl, (blk_cell (blk_alloc BK102.out _) 2).trans rfl⟩ (fun hHeld => ?_)
                                                clear hK K
                                                refine norm_ (a' := ?_) ?_ ?_
                                                rotate_left
                                                · show Act.put _ (some 110) _ = _
                                                  simp only [Act.put, List.setIfInBounds_toArray, List.set_cons_zero, List.set_cons_succ, i64_w, i32_w]
                                                  rfl
                                                refine one_ (i := 9) (N := some 111) #[true, true, true, true, true, true, true, true, true, true, false, false] rfl rfl (one_of HT_.out (by kernel_rfl)) (by decide) (fun K hK => ?_)
                                                refine Kd.R_append_step k36 (w0 := w) w.heap.size (by rfl) (.tmp 103) (.tmp 110) 23 36 (.agg #[(.int .i64 0), (.string ⟨#[]⟩), (.int .i64 0)]) 32 rfl Try.underlying23 info36 rfl (by decide) (by omega) u103000 x103000_1 (⟨1, a0.extract (x4_1 : Int).toNat (x6_3 : Int).toNat, x4_1⟩ : S36) [.int .i64 1, .string (a0.extract (x4_1 : Int).toNat (x6_3 : Int).toNat), .int .i64 x4_1] (fun _ => True) (fun _ => False) rfl rfl ?aP (fun _ hk => hk.elim) ?aF ?aO ?aB ?aS ?aL ?_
                                                (case aP => exact k36_mkM _ _ _ (⟨1, a0.extract (x4_1 : Int).toNat (x6_3 : Int).toNat, x4_1⟩ : S36))
                                                (case aB => exact (by repeat (first | (with_reducible first | exact HB.out | apply below_alloc | apply pw_below_drewN | apply below_drew1 | refine below_set ?_ GE101.out | refine below_set ?_ GE102.out) | exact HB.out)))
                                                (case aF => exact (fun _ _ => trivial))
                                                (case aO => exact (by (with_reducible repeat (first | apply Kd.R_alloc | apply Kd.R_drewN | apply Kd.R_drew)); exact HO_103000.out))
                                                (case aS => exact (below_size (by repeat (first | (with_reducible first | exact HB.out | apply below_alloc | apply pw_below_drewN | apply below_drew1 | refine below_set ?_ GE101.out | refine below_set ?_ GE102.out) | exact HB.out))))
                                                (case aL => have := LMc57.out; omega)
                                                intro v116 w59 ho hb hg hat
                                                rw [← Ny115.out] at ho
                                                have n0_ := Aside0.mk (blk_grown (g := gb101) (o := .cells #[.slice none 0 0, .int .i64 x102001_1, .int .i64 x102002_1] 30 (0, 0)) (by (with_reducible repeat (first | refine blk_drewN ?_ _ | refine blk_drew ?_ | refine blk_alloc ?_ _)); exact BK101.out) hg (Kd.R_ne HO_103000.out BK101.out (by decide)))
                                                have n1_ := Aside0.mk (blk_grown (g := gb102) (o := .cells #[u103000, .int .i64 0, .int .i64 0] 30 (0, 0)) (by (with_reducible repeat (first | refine blk_drewN ?_ _ | refine blk_drew ?_ | refine blk_alloc ?_ _)); exact BK102.out) hg (Kd.R_ne HO_103000.out BK102.out (by decide)))
                                                have n2_ := Aside0.mk (hb)
                                                have n3_ := Aside0.mk (ho)
                                                clear BK101
                                                clear BK102
                                                clear HB
                                                clear HO_103000
                                                have BK101 := n0_
                                                have BK102 := n1_
                                                have HB := n2_
                                                have HO117 := n3_
                                                clear n0_ n1_ n2_ n3_
                                                clear ho hb hg hat
                                                obtain ⟨Ao60, co60, eo60⟩ := Kd.R_slice HO117.out
                                                (first | subst eo60 | (injection eo60 with f1_ f2_ f3_; have f4_ := f1_.symm; have f5_ := f3_.symm; clear f1_ f2_ f3_; subst f4_; subst f5_))
                                                refine hK.out _ _ ⟨(blk_cell BK102.out 0).trans rfl, (blk_cell BK102.out 1).trans rfl, (blk_cell BK102.out 2).trans rfl⟩ (fun hHeld => ?_)
                                                clear hK K
                                                refine norm_ (a' := ?_) ?_ ?_
                                                rotate_left
                                                · show Act.put _ (some 111) _ = _
                                                  simp only [Act.put, List.setIfInBounds_toArray, List.set_cons_zero, List.set_cons_succ, i64_w, i32_w]
                                                  rfl
                                                refine pure_ (i := 10) (N := some 112) (v := ?_) (a' := ?_) #[true, true, true, true, true, true, true, true, true, true, true, false] rfl rfl (any_of HT_.out (by kernel_rfl)) (fun _ _ _ h => h) (Or.inl ⟨by rfl, ?_⟩) ?_ ?_
                                                rotate_left
                                                · intro w'
                                                  go_simp
                                                  with_reducible rfl
                                                rotate_left
                                                · simp only [Act.put, List.setIfInBounds_toArray, List.set_cons_zero, List.set_cons_succ, i64_w, i32_w]
                                                  rfl
                                                refine last_ (i := 11) (N := none) #[true, true, true, true, true, true, true, true, true, true, true, true] rfl rfl (one_of HT_.out (by kernel_rfl)) (by decide) (fun K hK => ?_)
                                                have hs61 : w59.cell? ⟨gb102, 0, none⟩ = some (u103000) := (blk_cell BK102.out 0).trans rfl
                                                have hfs61 := blk_frozen BK102.out 0
                                                have hns61_0 := NB101_102.out
                                                have hms61_0 := NB102_101.out
                                                refine skip_ (w1 := ?_) (by rfl) rfl ?_ ?_
                                                rotate_left
                                                · go_simp
                                                  rfl
                                                refine hK.out _ _ ?_
                                                clear hK K
                                                refine done_ (done_of HT_.out (by kernel_rfl)) ?_
                                                try go_wp2
                                                go_roundg k3
                                                case measure => have := HK1.out; have := HJ11.out; have := HK3.out; omega
                                                case rel => exact ⟨(x6_3), (x102001_1), (x102002_1), (y115), (.slice Ao60 y115.length co60), (by first | rfl | (simp; done) | (simp [*]; done)), H', ⟨by have := HK1.out; have := HJ11.out; have := HK3.out; omega⟩, ⟨by (with_reducible repeat (first | apply Kd.R_alloc | apply Kd.R_drewN | apply Kd.R_drew)); exact Kd.R_mono (Kd.R_far (p := ⟨gb102, 0, none⟩) (Kd.R_types HO117.out BK102.out (by decide)) (fun _ hk => hk.2) (.slice Ao60 y115.length co60)) (fun _ hk => trivial)⟩, ⟨by (with_reducible repeat (first | refine blk_drewN ?_ _ | refine blk_drew ?_ | refine blk_alloc ?_ _)); refine blk_far ?_ NB101_102.out _; (with_reducible repeat (first | refine blk_drewN ?_ _ | refine blk_drew ?_ | refine blk_alloc ?_ _)); exact BK101.out⟩, ⟨by (with_reducible repeat (first | refine blk_drewN ?_ _ | refine blk_drew ?_ | refine blk_alloc ?_ _)); refine blk_put (cs := #[u103000, .int .i64 0, .int .i64 0]) ?_ 0 _ rfl; (with_reducible repeat (first | refine blk_drewN ?_ _ | refine blk_drew ?_ | refine blk_alloc ?_ _)); exact BK102.out⟩, ⟨by repeat (first | (with_reducible first | exact HB.out | apply below_alloc | apply pw_below_drewN | apply below_drew1 | refine below_set ?_ GE101.out | refine below_set ?_ GE102.out) | exact HB.out)⟩⟩
                                              · rw [if_neg c57] at H
                                                exact absurd H (by simp)
                                            · replace c53 := Bool.eq_false_iff.mpr c53
                                              subst c53
                                              have H1 : (some (([] : List (S36)), 11, x4_1)) = some (r1, r2, r3) := by rw [if_neg (show ¬ (false = true) by decide)] at H; exact H
                                              clear H
                                              have H := H1
                                              clear H1
                                              simp only [Option.some.injEq, Prod.mk.injEq] at H
                                              obtain ⟨rfl, rfl, rfl⟩ := H
                                              have p46 : 0 ≤ (x6_3 : Int) := of_decide_eq_true (by first | (with_reducible assumption) | assumption)
                                              have q46 : x6_3 < (a0.size : Int) := of_decide_eq_true (by first | (with_reducible assumption) | assumption)
                                              have hx46 := bt_at a0 x6_3
                                              replace p46 := eq_true p46
                                              replace q46 := eq_true q46
                                              go_wp2_with (first | (go_at_call 21; (with_reducible refine (topiaristref01_more.calls (bt a0 x6_3) false _ A47.out).mono ?_); rintro e w' ⟨rfl, ⟨nd, rfl⟩⟩; (try (rw [drewN_self wr]; generalize hq_ : World.drewN wr _ = wr; have n0_ : Aside0 (Kd.R k36 36 wr w.heap.size (fun _ => True) u103000 x103000_1) := ⟨by rw [← hq_]; exact (by (with_reducible repeat (first | apply Kd.R_alloc | apply Kd.R_drewN | apply Kd.R_drew)); exact HO_103000.out)⟩; have n1_ : Aside0 (wr.heap[gb101]? = some (.cells #[.slice none 0 0, .int .i64 x102001_1, .int .i64 x102002_1] 30 (0, 0))) := ⟨by rw [← hq_]; exact (by (with_reducible repeat (first | refine blk_drewN ?_ _ | refine blk_drew ?_ | refine blk_alloc ?_ _)); exact BK101.out)⟩; have n2_ : Aside0 (wr.heap[gb102]? = some (.cells #[u103000, .int .i64 0, .int .i64 0] 30 (0, 0))) := ⟨by rw [← hq_]; exact (by (with_reducible repeat (first | refine blk_drewN ?_ _ | refine blk_drew ?_ | refine blk_alloc ?_ _)); exact BK102.out)⟩; have n3_ : Aside0 (Below w.heap.size w wr) := ⟨by rw [← hq_]; exact (by repeat (first | (with_reducible first | exact HB.out | apply below_alloc | apply pw_below_drewN | apply below_drew1 | refine below_set ?_ GE101.out | refine below_set ?_ GE102.out) | exact HB.out))⟩; clear HO_103000 BK101 BK102 HB hq_; have HO_103000 := n0_; have BK101 := n1_; have BK102 := n2_; have HB := n3_; clear n0_ n1_ n2_ n3_))) | ((with_reducible refine gate_callee (f := 14) rfl ?_); refine goesL_ (some 98) rfl rfl Try.func14 (by kernel_rfl) rfl #[.string (a0.extract (x4_1 : Int).toNat (x6_3 : Int).toNat)] rfl (by (try simp only [List.map_toArray, List.map_cons, List.map_nil]); first | done | rfl | (simp only [List.length_drop, List.length_take]; rfl)) ?_; (with_reducible refine (topiaristref01_IsName.calls k3 (a0.extract (x4_1 : Int).toNat (x6_3 : Int).toNat) false _ A52.out).mono ?_); rintro e w' ⟨rfl, ⟨nd, rfl⟩⟩; refine ⟨_, rfl, ?_⟩; (try (rw [drewN_self wr]; generalize hq_ : World.drewN wr _ = wr; have n0_ : Aside0 (Kd.R k36 36 wr w.heap.size (fun _ => True) u103000 x103000_1) := ⟨by rw [← hq_]; exact (by (with_reducible repeat (first | apply Kd.R_alloc | apply Kd.R_drewN | apply Kd.R_drew)); exact HO_103000.out)⟩; have n1_ : Aside0 (wr.heap[gb101]? = some (.cells #[.slice none 0 0, .int .i64 x102001_1, .int .i64 x102002_1] 30 (0, 0))) := ⟨by rw [← hq_]; exact (by (with_reducible repeat (first | refine blk_drewN ?_ _ | refine blk_drew ?_ | refine blk_alloc ?_ _)); exact BK101.out)⟩; have n2_ : Aside0 (wr.heap[gb102]? = some (.cells #[u103000, .int .i64 0, .int .i64 0] 30 (0, 0))) := ⟨by rw [← hq_]; exact (by (with_reducible repeat (first | refine blk_drewN ?_ _ | refine blk_drew ?_ | refine blk_alloc ?_ _)); exact BK102.out)⟩; have n3_ : Aside0 (Below w.heap.size w wr) := ⟨by rw [← hq_]; exact (by repeat (first | (with_reducible first | exact HB.out | apply below_alloc | apply pw_below_drewN | apply below_drew1 | refine below_set ?_ GE101.out | refine below_set ?_ GE102.out) | exact HB.out))⟩; clear HO_103000 BK101 BK102 HB hq_; have HO_103000 := n0_; have BK101 := n1_; have BK102 := n2_; have HB := n3_; clear n0_ n1_ n2_ n3_)); have hnb62 := NB101_102.out; have hnc62 := NB102_101.out; have hcz63_0 : wr.cell? ⟨gb101, 0, none⟩ = some (.slice none 0 0) := (blk_cell BK101.out 0).trans rfl; have hcz63_1 : wr.cell? ⟨gb101, 1, none⟩ = some (.int .i64 x102001_1) := (blk_cell BK101.out 1).trans rfl; have hcz63_2 : wr.cell? ⟨gb101, 2, none⟩ = some (.int .i64 x102002_1) := (blk_cell BK101.out 2).trans rfl; have hfz63_0 := blk_frozen BK101.out 0; have hfz63_1 := blk_frozen BK101.out 1; have hfz63_2 := blk_frozen BK101.out 2))
                                              refine bodyPost_ret (results_cell_row rfl _ _ gb101 30 #[.slice none 0 0, .int .i64 11, .int .i64 x4_1] (0, 0) _ rfl (by (with_reducible repeat (first | refine blk_drewN ?_ _ | refine blk_drew ?_ | refine blk_alloc ?_ _)); refine blk_put (cs := #[.slice none 0 0, .int .i64 11, .int .i64 x102002_1]) ?_ 2 _ rfl; (with_reducible repeat (first | refine blk_drewN ?_ _ | refine blk_drew ?_ | refine blk_alloc ?_ _)); refine blk_put (cs := #[.slice none 0 0, .int .i64 x102001_1, .int .i64 x102002_1]) ?_ 1 _ rfl; (with_reducible repeat (first | refine blk_drewN ?_ _ | refine blk_drew ?_ | refine blk_alloc ?_ _)); refine blk_put (cs := #[.slice none 0 0, .int .i64 x102001_1, .int .i64 x102002_1]) ?_ 0 _ rfl; (with_reducible repeat (first | refine blk_drewN ?_ _ | refine blk_drew ?_ | refine blk_alloc ?_ _)); exact BK101.out) Try.underlying30 rfl (by kernel_rfl)) rfl ?_
                                              exact ⟨_, by first | rfl | (simp [errW_none, errW_some] <;> rfl) | (simp [*, errW_none, errW_some] <;> rfl), by first | exact Kd.R_nil _ _ _ _ _ | exact Kd.N_nil _ _ _ _ _ | exact Kd.V_nil _ _ _ _ _ | exact Kd.Q_nil _ _ _ _ _ | exact Kd.S_nil _ _ _ _ _, by repeat (first | (with_reducible first | exact HB.out | apply below_alloc | apply pw_below_drewN | apply below_drew1 | refine below_set ?_ GE101.out | refine below_set ?_ GE102.out) | exact HB.out)⟩
                                          · rw [if_neg c51] at H
                                            exact absurd H (by simp)
                                        · rw [if_neg c50] at H
                                          exact absurd H (by simp)
                                      · rw [if_neg c49] at H
                                        exact absurd H (by simp)
                                  · rw [if_neg c45] at H
                                    exact absurd H (by simp)
                                · rw [if_neg c44] at H
                                  have c44b0 : decide (x6_3 < (a0.size : Int)) = false := decide_eq_false c44
                                  clear c44
                                  by_cases c64 : 0 ≤ x4_1
                                  · rw [if_pos c64] at H
                                    have c64b0 := eq_true c64
                                    have c64b1 : decide (0 ≤ x4_1) = true := decide_eq_true c64
                                    clear c64
                                    by_cases c65 : x4_1 ≤ x6_3
                                    · rw [if_pos c65] at H
                                      have c65b0 := eq_true c65
                                      have c65b1 : decide (x4_1 ≤ x6_3) = true := decide_eq_true c65
                                      clear c65
                                      by_cases c66 : x6_3 ≤ (a0.size : Int)
                                      · rw [if_pos c66] at H
                                        have c66b0 := eq_true c66
                                        have c66b1 : decide (x6_3 ≤ (a0.size : Int)) = true := decide_eq_true c66
                                        clear c66
                                        replace H := Option.bind_eq_some_iff.mp H
                                        obtain ⟨t118, A670, H⟩ := H
                                        replace H : (if t118 = true then (if x103000_1.length < 4398046511104 then (topiaristref01_Tokens.l0 k3 a0 x6_3 (x103000_1 ++ [(⟨1, a0.extract (x4_1 : Int).toNat (x6_3 : Int).toNat, x4_1⟩ : S36)]) 0 0) else (none)) else (some (([] : List (S36)), 11, x4_1))) = some (r1, r2, r3) := H
                                        have A67 := Aside0.mk A670
                                        clear A670
                                        by_cases c68 : t118 = true
                                        · subst c68
                                          have H1 : (if x103000_1.length < 4398046511104 then (topiaristref01_Tokens.l0 k3 a0 x6_3 (x103000_1 ++ [(⟨1, a0.extract (x4_1 : Int).toNat (x6_3 : Int).toNat, x4_1⟩ : S36)]) 0 0) else (none)) = some (r1, r2, r3) := by rw [if_pos rfl] at H; exact H
                                          clear H
                                          have H := H1
                                          clear H1
                                          have c69b0 := eq_true (of_decide_eq_true (by first | (with_reducible assumption) | assumption) : 0 ≤ x4_1)
                                          have c70b0 := eq_true (of_decide_eq_true (by first | (with_reducible assumption) | assumption) : x4_1 ≤ x6_3)
                                          have c71b0 := eq_true (of_decide_eq_true (by first | (with_reducible assumption) | assumption) : x6_3 ≤ (a0.size : Int))
                                          by_cases c72 : x103000_1.length < 4398046511104
                                          · rw [if_pos c72] at H
                                            have LMc72 := Aside0.mk c72
                                            clear c72
                                            obtain ⟨y119, hy119⟩ : ∃ y_ : List (S36), y_ = (x103000_1 ++ [(⟨1, a0.extract (x4_1 : Int).toNat (x6_3 : Int).toNat, x4_1⟩ : S36)]) := ⟨_, rfl⟩
                                            replace H : (topiaristref01_Tokens.l0 k3 a0 x6_3 y119 0 0) = some (r1, r2, r3) := by first | (rw [hy119]; with_reducible exact H) | (have H2_ := (Option.bind_some _ _).symm.trans H; rw [hy119]; with_reducible exact H2_) | (have H2_ := (Option.bind_some _ _).symm.trans H; with_reducible exact H2_) | with_reducible exact H | (rw [hy119]; exact H) | exact H
                                            have Ny119 := Aside0.mk hy119
                                            clear hy119
                                            have H' := Aside0.mk H
                                            clear H
                                            try go_wp2_with (first | ((with_reducible refine gate_callee (f := 14) rfl ?_); refine goesL_ (some 98) rfl rfl Try.func14 (by kernel_rfl) rfl #[.string (a0.extract (x4_1 : Int).toNat (x6_3 : Int).toNat)] rfl (by (try simp only [List.map_toArray, List.map_cons, List.map_nil]); first | done | rfl | (simp only [List.length_drop, List.length_take]; rfl)) ?_; (with_reducible refine (topiaristref01_IsName.calls k3 (a0.extract (x4_1 : Int).toNat (x6_3 : Int).toNat) true _ A67.out).mono ?_); rintro e w' ⟨rfl, ⟨nd, rfl⟩⟩; refine ⟨_, rfl, ?_⟩; (try (rw [drewN_self wr]; generalize hq_ : World.drewN wr _ = wr; have n0_ : Aside0 (Kd.R k36 36 wr w.heap.size (fun _ => True) u103000 x103000_1) := ⟨by rw [← hq_]; exact (by (with_reducible repeat (first | apply Kd.R_alloc | apply Kd.R_drewN | apply Kd.R_drew)); exact HO_103000.out)⟩; have n1_ : Aside0 (wr.heap[gb101]? = some (.cells #[.slice none 0 0, .int .i64 x102001_1, .int .i64 x102002_1] 30 (0, 0))) := ⟨by rw [← hq_]; exact (by (with_reducible repeat (first | refine blk_drewN ?_ _ | refine blk_drew ?_ | refine blk_alloc ?_ _)); exact BK101.out)⟩; have n2_ : Aside0 (wr.heap[gb102]? = some (.cells #[u103000, .int .i64 0, .int .i64 0] 30 (0, 0))) := ⟨by rw [← hq_]; exact (by (with_reducible repeat (first | refine blk_drewN ?_ _ | refine blk_drew ?_ | refine blk_alloc ?_ _)); exact BK102.out)⟩; have n3_ : Aside0 (Below w.heap.size w wr) := ⟨by rw [← hq_]; exact (by repeat (first | (with_reducible first | exact HB.out | apply below_alloc | apply pw_below_drewN | apply below_drew1 | refine below_set ?_ GE101.out | refine below_set ?_ GE102.out) | exact HB.out))⟩; clear HO_103000 BK101 BK102 HB hq_; have HO_103000 := n0_; have BK101 := n1_; have BK102 := n2_; have HB := n3_; clear n0_ n1_ n2_ n3_))))
                                            have n0_ := Aside0.mk (Kd.R_drew HO_103000.out)
                                            have n1_ := Aside0.mk (blk_drew BK101.out)
                                            have n2_ := Aside0.mk (blk_drew BK102.out)
                                            have n3_ := Aside0.mk (below_drew1 HB.out)
                                            clear HO_103000
                                            clear BK101
                                            clear BK102
                                            clear HB
                                            have HO_103000 := n0_
                                            have BK101 := n1_
                                            have BK102 := n2_
                                            have HB := n3_
                                            clear n0_ n1_ n2_ n3_
                                            refine start_ (n := 12) (S := fun w' => w'.cell? ⟨gb102, 0, none⟩ = some (u103000) ∧ w'.cell? ⟨gb102, 1, none⟩ = some (.int .i64 0) ∧ w'.cell? ⟨gb102, 2, none⟩ = some (.int .i64 0)) (ds := [11]) #[false, false, false, false, false, false, false, false, false, false, false, false] (by kernel_rfl) rfl rfl ⟨(blk_cell BK102.out 0).trans rfl, (blk_cell BK102.out 1).trans rfl, (blk_cell BK102.out 2).trans rfl⟩ (fun hHeld => ?_); refine with_tabW topiaristref01_Tokens.tab24 topiaristref01_Tokens.bits24 (fun HT_ HW_ => ?_)
                                            generalize wr.drew = w73 at HO_103000 BK101 BK102 HB hHeld ⊢
                                            refine pure_ (i := 0) (N := some 102) (v := ?_) (a' := ?_) #[true, false, false, false, false, false, false, false, false, false, false, false] rfl rfl (any_of HT_.out (by kernel_rfl)) (fun _ _ _ h => h) (Or.inl ⟨by rfl, ?_⟩) ?_ ?_
                                            rotate_left
                                            · intro w'
                                              go_simp
                                              with_reducible rfl
                                            rotate_left
                                            · simp only [Act.put, List.setIfInBounds_toArray, List.set_cons_zero, List.set_cons_succ, i64_w, i32_w]
                                              rfl
                                            refine pure_ (i := 2) (N := some 104) (v := ?_) (a' := ?_) #[true, false, true, false, false, false, false, false, false, false, false, false] rfl rfl (any_of HT_.out (by kernel_rfl)) (fun _ _ _ h => h) (Or.inl ⟨by rfl, ?_⟩) ?_ ?_
                                            rotate_left
                                            · intro w'
                                              go_simp
                                              with_reducible rfl
                                            rotate_left
                                            · simp only [Act.put, List.setIfInBounds_toArray, List.set_cons_zero, List.set_cons_succ, i64_w, i32_w]
                                              rfl
                                            refine pure_ (i := 3) (N := some 105) (v := ?_) (a' := ?_) #[true, false, true, true, false, false, false, false, false, false, false, false] rfl rfl (any_of HT_.out (by kernel_rfl)) (fun _ _ _ h => h) (Or.inl ⟨by rfl, ?_⟩) ?_ ?_
                                            rotate_left
                                            · intro w'
                                              go_simp
                                              with_reducible rfl
                                            rotate_left
                                            · simp only [Act.put, List.setIfInBounds_toArray, List.set_cons_zero, List.set_cons_succ, i64_w, i32_w]
                                              rfl
                                            refine pure_ (i := 4) (N := some 106) (v := ?_) (a' := ?_) #[true, false, true, true, true, false, false, false, false, false, false, false] rfl rfl (any_of HT_.out (by kernel_rfl)) (fun _ _ _ h => h) (Or.inl ⟨by rfl, ?_⟩) ?_ ?_
                                            rotate_left
                                            · intro w'
                                              go_simp
                                              with_reducible rfl
                                            rotate_left
                                            · simp only [Act.put, List.setIfInBounds_toArray, List.set_cons_zero, List.set_cons_succ, i64_w, i32_w]
                                              rfl
                                            refine pure_ (i := 5) (N := some 107) (v := ?_) (a' := ?_) #[true, false, true, true, true, true, false, false, false, false, false, false] rfl rfl (any_of HT_.out (by kernel_rfl)) (fun _ _ _ h => h) (Or.inl ⟨by rfl, ?_⟩) ?_ ?_
                                            rotate_left
                                            · intro w'
                                              go_simp
                                              with_reducible rfl
                                            rotate_left
                                            · simp only [Act.put, List.setIfInBounds_toArray, List.set_cons_zero, List.set_cons_succ, i64_w, i32_w]
                                              rfl
                                            refine pure_ (i := 6) (N := some 108) (v := ?_) (a' := ?_) #[true, false, true, true, true, true, true, false, false, false, false, false] rfl rfl (any_of HT_.out (by kernel_rfl)) (fun _ _ _ h => h) (Or.inl ⟨by rfl, ?_⟩) ?_ ?_
                                            rotate_left
                                            · intro w'
                                              go_simp
                                              with_reducible rfl
                                            rotate_left
                                            · simp only [Act.put, List.setIfInBounds_toArray, List.set_cons_zero, List.set_cons_succ, i64_w, i32_w]
                                              rfl
                                            refine pure_ (i := 7) (N := some 109) (v := ?_) (a' := ?_) #[true, false, true, true, true, true, true, true, false, false, false, false] rfl rfl (any_of HT_.out (by kernel_rfl)) (fun _ _ _ h => h) (Or.inl ⟨by rfl, ?_⟩) ?_ ?_
                                            rotate_left
                                            · intro w'
                                              go_simp
                                              with_reducible rfl
                                            rotate_left
                                            · simp only [Act.put, List.setIfInBounds_toArray, List.set_cons_zero, List.set_cons_succ, i64_w, i32_w]
                                              rfl
                                            refine take_ (i := 1) (N := some 103) (v := ?_) (a' := ?_) #[true, true, true, true, true, true, true, true, false, false, false, false] rfl rfl (take_ofW HT_.out HW_.out (by kernel_rfl)) (fun _ _ _ h => h) (Or.inl ⟨by rfl, ?_⟩) hHeld ?_ ?_
                                            rotate_left
                                            · rintro w' ⟨s0, s1, s2⟩
                                              go_simp
                                              with_reducible rfl
                                            rotate_left
                                            · simp only [Act.put, List.setIfInBounds_toArray, List.set_cons_zero, List.set_cons_succ, i64_w, i32_w]
                                              rfl
                                            refine one_ (i := 8) (N := some 110) #[true, true, true, true, true, true, true, true, true, false, false, false] rfl rfl (one_of HT_.out (by kernel_rfl)) (by decide) (fun K hK => ?_)
                                            refine value_ (w1 := ?_) (v := ?_) (by rfl) rfl ?_ ?_
                                            rotate_left 2
                                            · go_simp
                                              constructor
                                              · rfl
                                              · rfl
                                            refine hK.out _ _ ⟨(blk_cell (blk_alloc BK102.out _) 0).trans rfl, (blk_cell (blk_alloc BK102.out _) 1).trans rfl, (blk_cell (blk_alloc BK102.out _) 2).trans rfl⟩ (fun hHeld => ?_)
                                            clear hK K
                                            refine norm_ (a' := ?_) ?_ ?_
                                            rotate_left
                                            · show Act.put _ (some 110) _ = _
                                              simp only [Act.put, List.setIfInBounds_toArray, List.set_cons_zero, List.set_cons_succ, i64_w, i32_w]
                                              rfl
                                            refine one_ (i := 9) (N := some 111) #[true, true, true, true, true, true, true, true, true, true, false, false] rfl rfl (one_of HT_.out (by kernel_rfl)) (by decide) (fun K hK => ?_)
                                            refine Kd.R_append_step k36 (w0 := w) w.heap.size (by rfl) (.tmp 103) (.tmp 110) 23 36 (.agg #[(.int .i64 0), (.string ⟨#[]⟩), (.int .i64 0)]) 32 rfl Try.underlying23 info36 rfl (by decide) (by omega) u103000 x103000_1 (⟨1, a0.extract (x4_1 : Int).toNat (x6_3 : Int).toNat, x4_1⟩ : S36) [.int .i64 1, .string (a0.extract (x4_1 : Int).toNat (x6_3 : Int).toNat), .int .i64 x4_1] (fun _ => True) (fun _ => False) rfl rfl ?aP (fun _ hk => hk.elim) ?aF ?aO ?aB ?aS ?aL ?_
                                            (case aP => exact k36_mkM _ _ _ (⟨1, a0.extract (x4_1 : Int).toNat (x6_3 : Int).toNat, x4_1⟩ : S36))
                                            (case aB => exact (by repeat (first | (with_reducible first | exact HB.out | apply below_alloc | apply pw_below_drewN | apply below_drew1 | refine below_set ?_ GE101.out | refine below_set ?_ GE102.out) | exact HB.out)))
                                            (case aF => exact (fun _ _ => trivial))
                                            (case aO => exact (by (with_reducible repeat (first | apply Kd.R_alloc | apply Kd.R_drewN | apply Kd.R_drew)); exact HO_103000.out))
                                            (case aS => exact (below_size (by repeat (first | (with_reducible first | exact HB.out | apply below_alloc | apply pw_below_drewN | apply below_drew1 | refine below_set ?_ GE101.out | refine below_set ?_ GE102.out) | exact HB.out))))
                                            (case aL => have := LMc72.out; omega)
                                            intro v120 w74 ho hb hg hat
                                            rw [← Ny119.out] at ho
                                            have n0_ := Aside0.mk (blk_grown (g := gb101) (o := .cells #[.slice none 0 0, .int .i64 x102001_1, .int .i64 x102002_1] 30 (0, 0)) (by (with_reducible repeat (first | refine blk_drewN ?_ _ | refine blk_drew ?_ | refine blk_alloc ?_ _)); exact BK101.out) hg (Kd.R_ne HO_103000.out BK101.out (by decide)))
                                            have n1_ := Aside0.mk (blk_grown (g := gb102) (o := .cells #[u103000, .int .i64 0, .int .i64 0] 30 (0, 0)) (by (with_reducible repeat (first | refine blk_drewN ?_ _ | refine blk_drew ?_ | refine blk_alloc ?_ _)); exact BK102.out) hg (Kd.R_ne HO_103000.out BK102.out (by decide)))
                                            have n2_ := Aside0.mk (hb)
                                            have n3_ := Aside0.mk (ho)
                                            clear BK101
                                            clear BK102
                                            clear HB
                                            clear HO_103000
                                            have BK101 := n0_
                                            have BK102 := n1_
                                            have HB := n2_
                                            have HO121 := n3_
                                            clear n0_ n1_ n2_ n3_
                                            clear ho hb hg hat
                                            obtain ⟨Ao75, co75, eo75⟩ := Kd.R_slice HO121.out
                                            (first | subst eo75 | (injection eo75 with f1_ f2_ f3_; have f4_ := f1_.symm; have f5_ := f3_.symm; clear f1_ f2_ f3_; subst f4_; subst f5_))
                                            refine hK.out _ _ ⟨(blk_cell BK102.out 0).trans rfl, (blk_cell BK102.out 1).trans rfl, (blk_cell BK102.out 2).trans rfl⟩ (fun hHeld => ?_)
                                            clear hK K
                                            refine norm_ (a' := ?_) ?_ ?_
                                            rotate_left
                                            · show Act.put _ (some 111) _ = _
                                              simp only [Act.put, List.setIfInBounds_toArray, List.set_cons_zero, List.set_cons_succ, i64_w, i32_w]
                                              rfl
                                            refine pure_ (i := 10) (N := some 112) (v := ?_) (a' := ?_) #[true, true, true, true, true, true, true, true, true, true, true, false] rfl rfl (any_of HT_.out (by kernel_rfl)) (fun _ _ _ h => h) (Or.inl ⟨by rfl, ?_⟩) ?_ ?_
                                            rotate_left
                                            · intro w'
                                              go_simp
                                              with_reducible rfl
                                            rotate_left
                                            · simp only [Act.put, List.setIfInBounds_toArray, List.set_cons_zero, List.set_cons_succ, i64_w, i32_w]
                                              rfl
                                            refine last_ (i := 11) (N := none) #[true, true, true, true, true, true, true, true, true, true, true, true] rfl rfl (one_of HT_.out (by kernel_rfl)) (by decide) (fun K hK => ?_)
                                            have hs76 : w74.cell? ⟨gb102, 0, none⟩ = some (u103000) := (blk_cell BK102.out 0).trans rfl
                                            have hfs76 := blk_frozen BK102.out 0
                                            have hns76_0 := NB101_102.out
                                            have hms76_0 := NB102_101.out
                                            refine skip_ (w1 := ?_) (by rfl) rfl ?_ ?_
                                            rotate_left
                                            · go_simp
                                              rfl
                                            refine hK.out _ _ ?_
                                            clear hK K
                                            refine done_ (done_of HT_.out (by kernel_rfl)) ?_
                                            try go_wp2
                                            go_roundg k3
                                            case measure => have := HK1.out; have := HJ11.out; have := HK3.out; omega
                                            case rel => exact ⟨(x6_3), (x102001_1), (x102002_1), (y119), (.slice Ao75 y119.length co75), (by first | rfl | (simp; done) | (simp [*]; done)), H', ⟨by have := HK1.out; have := HJ11.out; have := HK3.out; omega⟩, ⟨by (with_reducible repeat (first | apply Kd.R_alloc | apply Kd.R_drewN | apply Kd.R_drew)); exact Kd.R_mono (Kd.R_far (p := ⟨gb102, 0, none⟩) (Kd.R_types HO121.out BK102.out (by decide)) (fun _ hk => hk.2) (.slice Ao75 y119.length co75)) (fun _ hk => trivial)⟩, ⟨by (with_reducible repeat (first | refine blk_drewN ?_ _ | refine blk_drew ?_ | refine blk_alloc ?_ _)); refine blk_far ?_ NB101_102.out _; (with_reducible repeat (first | refine blk_drewN ?_ _ | refine blk_drew ?_ | refine blk_alloc ?_ _)); exact BK101.out⟩, ⟨by (with_reducible repeat (first | refine blk_drewN ?_ _ | refine blk_drew ?_ | refine blk_alloc ?_ _)); refine blk_put (cs := #[u103000, .int .i64 0, .int .i64 0]) ?_ 0 _ rfl; (with_reducible repeat (first | refine blk_drewN ?_ _ | refine blk_drew ?_ | refine blk_alloc ?_ _)); exact BK102.out⟩, ⟨by repeat (first | (with_reducible first | exact HB.out | apply below_alloc | apply pw_below_drewN | apply below_drew1 | refine below_set ?_ GE101.out | refine below_set ?_ GE102.out) | exact HB.out)⟩⟩
                                          · rw [if_neg c72] at H
                                            exact absurd H (by simp)
                                        · replace c68 := Bool.eq_false_iff.mpr c68
                                          subst c68
                                          have H1 : (some (([] : List (S36)), 11, x4_1)) = some (r1, r2, r3) := by rw [if_neg (show ¬ (false = true) by decide)] at H; exact H
                                          clear H
                                          have H := H1
                                          clear H1
                                          simp only [Option.some.injEq, Prod.mk.injEq] at H
                                          obtain ⟨rfl, rfl, rfl⟩ := H
                                          go_wp2_with (first | ((with_reducible refine gate_callee (f := 14) rfl ?_); refine goesL_ (some 98) rfl rfl Try.func14 (by kernel_rfl) rfl #[.string (a0.extract (x4_1 : Int).toNat (x6_3 : Int).toNat)] rfl (by (try simp only [List.map_toArray, List.map_cons, List.map_nil]); first | done | rfl | (simp only [List.length_drop, List.length_take]; rfl)) ?_; (with_reducible refine (topiaristref01_IsName.calls k3 (a0.extract (x4_1 : Int).toNat (x6_3 : Int).toNat) false _ A67.out).mono ?_); rintro e w' ⟨rfl, ⟨nd, rfl⟩⟩; refine ⟨_, rfl, ?_⟩; (try (rw [drewN_self wr]; generalize hq_ : World.drewN wr _ = wr; have n0_ : Aside0 (Kd.R k36 36 wr w.heap.size (fun _ => True) u103000 x103000_1) := ⟨by rw [← hq_]; exact (by (with_reducible repeat (first | apply Kd.R_alloc | apply Kd.R_drewN | apply Kd.R_drew)); exact HO_103000.out)⟩; have n1_ : Aside0 (wr.heap[gb101]? = some (.cells #[.slice none 0 0, .int .i64 x102001_1, .int .i64 x102002_1] 30 (0, 0))) := ⟨by rw [← hq_]; exact (by (with_reducible repeat (first | refine blk_drewN ?_ _ | refine blk_drew ?_ | refine blk_alloc ?_ _)); exact BK101.out)⟩; have n2_ : Aside0 (wr.heap[gb102]? = some (.cells #[u103000, .int .i64 0, .int .i64 0] 30 (0, 0))) := ⟨by rw [← hq_]; exact (by (with_reducible repeat (first | refine blk_drewN ?_ _ | refine blk_drew ?_ | refine blk_alloc ?_ _)); exact BK102.out)⟩; have n3_ : Aside0 (Below w.heap.size w wr) := ⟨by rw [← hq_]; exact (by repeat (first | (with_reducible first | exact HB.out | apply below_alloc | apply pw_below_drewN | apply below_drew1 | refine below_set ?_ GE101.out | refine below_set ?_ GE102.out) | exact HB.out))⟩; clear HO_103000 BK101 BK102 HB hq_; have HO_103000 := n0_; have BK101 := n1_; have BK102 := n2_; have HB := n3_; clear n0_ n1_ n2_ n3_)); have hnb77 := NB101_102.out; have hnc77 := NB102_101.out; have hcz78_0 : wr.cell? ⟨gb101, 0, none⟩ = some (.slice none 0 0) := (blk_cell BK101.out 0).trans rfl; have hcz78_1 : wr.cell? ⟨gb101, 1, none⟩ = some (.int .i64 x102001_1) := (blk_cell BK101.out 1).trans rfl; have hcz78_2 : wr.cell? ⟨gb101, 2, none⟩ = some (.int .i64 x102002_1) := (blk_cell BK101.out 2).trans rfl; have hfz78_0 := blk_frozen BK101.out 0; have hfz78_1 := blk_frozen BK101.out 1; have hfz78_2 := blk_frozen BK101.out 2))
                                          refine bodyPost_ret (results_cell_row rfl _ _ gb101 30 #[.slice none 0 0, .int .i64 11, .int .i64 x4_1] (0, 0) _ rfl (by (with_reducible repeat (first | refine blk_drewN ?_ _ | refine blk_drew ?_ | refine blk_alloc ?_ _)); refine blk_put (cs := #[.slice none 0 0, .int .i64 11, .int .i64 x102002_1]) ?_ 2 _ rfl; (with_reducible repeat (first | refine blk_drewN ?_ _ | refine blk_drew ?_ | refine blk_alloc ?_ _)); refine blk_put (cs := #[.slice none 0 0, .int .i64 x102001_1, .int .i64 x102002_1]) ?_ 1 _ rfl; (with_reducible repeat (first | refine blk_drewN ?_ _ | refine blk_drew ?_ | refine blk_alloc ?_ _)); refine blk_put (cs := #[.slice none 0 0, .int .i64 x102001_1, .int .i64 x102002_1]) ?_ 0 _ rfl; (with_reducible repeat (first | refine blk_drewN ?_ _ | refine blk_drew ?_ | refine blk_alloc ?_ _)); exact BK101.out) Try.underlying30 rfl (by kernel_rfl)) rfl ?_
                                          exact ⟨_, by first | rfl | (simp [errW_none, errW_some] <;> rfl) | (simp [*, errW_none, errW_some] <;> rfl), by first | exact Kd.R_nil _ _ _ _ _ | exact Kd.N_nil _ _ _ _ _ | exact Kd.V_nil _ _ _ _ _ | exact Kd.Q_nil _ _ _ _ _ | exact Kd.S_nil _ _ _ _ _, by repeat (first | (with_reducible first | exact HB.out | apply below_alloc | apply pw_below_drewN | apply below_drew1 | refine below_set ?_ GE101.out | refine below_set ?_ GE102.out) | exact HB.out)⟩
                                      · rw [if_neg c66] at H
                                        exact absurd H (by simp)
                                    · rw [if_neg c65] at H
                                      exact absurd H (by simp)
                                  · rw [if_neg c64] at H
                                    exact absurd H (by simp)
                          · replace c43 := Bool.eq_false_iff.mpr c43
                            subst c43
                            have H1 : (if (bt a0 x4_1) = 39 then (topiaristref01_Tokens.l3 kj11 a0 x4_1 (wrap64 (x4_1 + 1)) x103000_1 0 0) else (some (([] : List (S36)), 11, x4_1))) = some (r1, r2, r3) := by rw [if_neg (show ¬ (false = true) by decide)] at H; exact H
                            clear H
                            have H := H1
                            clear H1
                            by_cases c79 : (bt a0 x4_1) = 39
                            · rw [if_pos c79] at H
                              have c79b0 : ((bt a0 x4_1) == 39) = true := beq_iff_eq.mpr c79
                              have c79b1 : ((bt a0 x4_1) != 39) = false := bne_eq_false_iff_eq.mpr c79
                              clear c79
                              have H' := Aside0.mk H
                              clear H
                              go_wp2_with (first | ((with_reducible refine gate_callee (f := 20) rfl ?_); refine goesL_ (some 81) rfl rfl Try.func20 (by kernel_rfl) rfl #[.int .u8 (bt a0 x4_1)] rfl (by (try simp only [List.map_toArray, List.map_cons, List.map_nil]); first | done | rfl | (simp only [List.length_drop, List.length_take]; rfl)) ?_; (with_reducible refine (topiaristref01_letter.calls (bt a0 x4_1) false _ A42.out).mono ?_); rintro e w' ⟨rfl, ⟨nd, rfl⟩⟩; refine ⟨_, rfl, ?_⟩))
                              go_loopg [6] kj11 (fun kq v6 w' => ∃ (x6_3 : Int), v6 = .int .i64 x6_3 ∧ Aside0 (topiaristref01_Tokens.l3 kq a0 x4_1 x6_3 x103000_1 0 0 = some (r1, r2, r3)) ∧ Aside0 (kq ≤ kj11) ∧ Aside0 (Kd.R k36 36 w' w.heap.size (fun _ => True) u103000 x103000_1) ∧ Aside0 (w'.heap[gb101]? = some (.cells #[(.slice none 0 0), .int .i64 x102001_1, .int .i64 x102002_1] 30 (0, 0))) ∧ Aside0 (w'.heap[gb102]? = some (.cells #[u103000, .int .i64 0, .int .i64 0] 30 (0, 0))) ∧ Aside0 (Below w.heap.size w w'))
                              case atStart => exact ⟨((wrap64 (x4_1 + 1))), (by first | rfl | (simp; done) | (simp [*]; done)), H', ⟨Nat.le_refl _⟩, ⟨by (with_reducible repeat (first | apply Kd.R_alloc | apply Kd.R_drewN | apply Kd.R_drew)); exact HO_103000.out⟩, ⟨by (with_reducible repeat (first | refine blk_drewN ?_ _ | refine blk_drew ?_ | refine blk_alloc ?_ _)); exact BK101.out⟩, ⟨by (with_reducible repeat (first | refine blk_drewN ?_ _ | refine blk_drew ?_ | refine blk_alloc ?_ _)); exact BK102.out⟩, ⟨by repeat (first | (with_reducible first | exact HB.out | apply below_alloc | apply pw_below_drewN | apply below_drew1 | refine below_set ?_ GE101.out | refine below_set ?_ GE102.out) | exact HB.out)⟩⟩
                              case round =>
                                clear H'
                                try clear c1
                                try clear p1
                                try clear q1
                                try clear hx1
                                try clear c2
                                try clear c2b1
                                try clear p2
                                try clear c3
                                try clear c4
                                try clear p4
                                try clear q4
                                try clear hx4
                                try clear c5
                                try clear c6
                                try clear p6
                                try clear c7
                                try clear c9
                                try clear c9b0
                                try clear c10
                                try clear c10b0
                                try clear c11
                                try clear p11
                                try clear q11
                                try clear hx11
                                try clear c13
                                try clear c13b0
                                try clear c13b1
                                try clear c14
                                try clear c14b0
                                try clear c14b1
                                try clear c15
                                try clear c16
                                try clear c16b0
                                try clear c16b1
                                try clear c17
                                try clear c17b0
                                try clear c18
                                try clear c18b0
                                try clear p19
                                try clear q19
                                try clear hx19
                                try clear c20
                                try clear c20b0
                                try clear c20b1
                                try clear c21
                                try clear c21b0
                                try clear c21b1
                                try clear c22
                                try clear c23
                                try clear c28
                                try clear c28b0
                                try clear c28b1
                                try clear c29
                                try clear c30
                                try clear c35
                                try clear c35b0
                                try clear c35b1
                                try clear c36
                                try clear c37
                                try clear c43
                                try clear c44
                                try clear c44b0
                                try clear c45
                                try clear c45b0
                                try clear p46
                                try clear q46
                                try clear hx46
                                try clear c48
                                try clear c49
                                try clear c49b0
                                try clear c49b1
                                try clear c50
                                try clear c50b0
                                try clear c50b1
                                try clear c51
                                try clear c51b0
                                try clear c51b1
                                try clear c53
                                try clear c54
                                try clear c54b0
                                try clear c55
                                try clear c55b0
                                try clear c56
                                try clear c56b0
                                try clear c57
                                try clear c62
                                try clear c64
                                try clear c64b0
                                try clear c64b1
                                try clear p64
                                try clear c65
                                try clear c65b0
                                try clear c65b1
                                try clear c66
                                try clear c66b0
                                try clear c66b1
                                try clear c68
                                try clear c69
                                try clear c69b0
                                try clear c70
                                try clear c70b0
                                try clear c71
                                try clear c71b0
                                try clear c72
                                try clear c77
                                try clear c79
                                try clear c79b0
                                try clear c79b1
                                try clear hcz24_0
                                try clear hcz24_1
                                try clear hcz24_2
                                try clear hcz27_0
                                try clear hcz27_1
                                try clear hcz27_2
                                try clear hcz31_0
                                try clear hcz31_1
                                try clear hcz31_2
                                try clear hcz34_0
                                try clear hcz34_1
                                try clear hcz34_2
                                try clear hcz38_0
                                try clear hcz38_1
                                try clear hcz38_2
                                try clear hcz41_0
                                try clear hcz41_1
                                try clear hcz41_2
                                try clear hcz4_0
                                try clear hcz4_1
                                try clear hcz4_2
                                try clear hcz63_0
                                try clear hcz63_1
                                try clear hcz63_2
                                try clear hcz78_0
                                try clear hcz78_1
                                try clear hcz78_2
                                try clear hcz8_0
                                try clear hcz8_1
                                try clear hcz8_2
                                try clear hfz24_0
                                try clear hfz24_1
                                try clear hfz24_2
                                try clear hfz27_0
                                try clear hfz27_1
                                try clear hfz27_2
                                try clear hfz31_0
                                try clear hfz31_1
                                try clear hfz31_2
                                try clear hfz34_0
                                try clear hfz34_1
                                try clear hfz34_2
                                try clear hfz38_0
                                try clear hfz38_1
                                try clear hfz38_2
                                try clear hfz41_0
                                try clear hfz41_1
                                try clear hfz41_2
                                try clear hfz4_0
                                try clear hfz4_1
                                try clear hfz4_2
                                try clear hfz63_0
                                try clear hfz63_1
                                try clear hfz63_2
                                try clear hfz78_0
                                try clear hfz78_1
                                try clear hfz78_2
                                try clear hfz8_0
                                try clear hfz8_1
                                try clear hfz8_2
                                try clear p1
                                try clear p11
                                try clear p19
                                try clear p2
                                try clear p46
                                try clear p6
                                try clear q1
                                try clear q11
                                try clear q19
                                try clear q46
                                obtain ⟨x6_3, rfl, HA, HK3, HO_103000, BK101, BK102, HB⟩ := hrel
                                cases gk with
                                | zero => exact absurd HA.out (by simp [topiaristref01_Tokens.l3])
                                | succ k3 =>
                                  have H := HA.out
                                  clear HA
                                  simp only [topiaristref01_Tokens.l3] at H
                                  by_cases c80 : x6_3 < (a0.size : Int)
                                  · rw [if_pos c80] at H
                                    have c80b0 : decide (x6_3 < (a0.size : Int)) = true := decide_eq_true c80
                                    clear c80
                                    by_cases c81 : 0 ≤ x6_3
                                    · rw [if_pos c81] at H
                                      have c81b0 : decide (0 ≤ x6_3) = true := decide_eq_true c81
                                      clear c81
                                      by_cases c83 : (bt a0 x6_3) = 39
                                      · rw [if_pos c83] at H
                                        have c83b0 : ((bt a0 x6_3) == 39) = true := beq_iff_eq.mpr c83
                                        have c83b1 : ((bt a0 x6_3) != 39) = false := bne_eq_false_iff_eq.mpr c83
                                        clear c83
                                        by_cases c84 : x6_3 = (a0.size : Int)
                                        · rw [if_pos c84] at H
                                          have c84b0 : (x6_3 == (a0.size : Int)) = true := beq_iff_eq.mpr c84
                                          have c84b1 : (x6_3 != (a0.size : Int)) = false := bne_eq_false_iff_eq.mpr c84
                                          clear c84
                                          simp only [Option.some.injEq, Prod.mk.injEq] at H
                                          obtain ⟨rfl, rfl, rfl⟩ := H
                                          have p82 : 0 ≤ (x6_3 : Int) := of_decide_eq_true (by first | (with_reducible assumption) | assumption)
                                          have q82 : x6_3 < (a0.size : Int) := of_decide_eq_true (by first | (with_reducible assumption) | assumption)
                                          have hx82 := bt_at a0 x6_3
                                          replace p82 := eq_true p82
                                          replace q82 := eq_true q82
                                          have hnb85 := NB101_102.out
                                          have hnc85 := NB102_101.out
                                          have hcz86_0 : wr.cell? ⟨gb101, 0, none⟩ = some (.slice none 0 0) := (blk_cell BK101.out 0).trans rfl
                                          have hcz86_1 : wr.cell? ⟨gb101, 1, none⟩ = some (.int .i64 x102001_1) := (blk_cell BK101.out 1).trans rfl
                                          have hcz86_2 : wr.cell? ⟨gb101, 2, none⟩ = some (.int .i64 x102002_1) := (blk_cell BK101.out 2).trans rfl
                                          have hfz86_0 := blk_frozen BK101.out 0
                                          have hfz86_1 := blk_frozen BK101.out 1
                                          have hfz86_2 := blk_frozen BK101.out 2
                                          go_wp2
                                          refine bodyPost_ret (results_cell_row rfl _ _ gb101 30 #[.slice none 0 0, .int .i64 11, .int .i64 x4_1] (0, 0) _ rfl (by (with_reducible repeat (first | refine blk_drewN ?_ _ | refine blk_drew ?_ | refine blk_alloc ?_ _)); refine blk_put (cs := #[.slice none 0 0, .int .i64 11, .int .i64 x102002_1]) ?_ 2 _ rfl; (with_reducible repeat (first | refine blk_drewN ?_ _ | refine blk_drew ?_ | refine blk_alloc ?_ _)); refine blk_put (cs := #[.slice none 0 0, .int .i64 x102001_1, .int .i64 x102002_1]) ?_ 1 _ rfl; (with_reducible repeat (first | refine blk_drewN ?_ _ | refine blk_drew ?_ | refine blk_alloc ?_ _)); refine blk_put (cs := #[.slice none 0 0, .int .i64 x102001_1, .int .i64 x102002_1]) ?_ 0 _ rfl; (with_reducible repeat (first | refine blk_drewN ?_ _ | refine blk_drew ?_ | refine blk_alloc ?_ _)); exact BK101.out) Try.underlying30 rfl (by kernel_rfl)) rfl ?_
                                          exact ⟨_, by first | rfl | (simp [errW_none, errW_some] <;> rfl) | (simp [*, errW_none, errW_some] <;> rfl), by first | exact Kd.R_nil _ _ _ _ _ | exact Kd.N_nil _ _ _ _ _ | exact Kd.V_nil _ _ _ _ _ | exact Kd.Q_nil _ _ _ _ _ | exact Kd.S_nil _ _ _ _ _, by repeat (first | (with_reducible first | exact HB.out | apply below_alloc | apply pw_below_drewN | apply below_drew1 | refine below_set ?_ GE101.out | refine below_set ?_ GE102.out) | exact HB.out)⟩
                                        · rw [if_neg c84] at H
                                          have c84b0 : (x6_3 == (a0.size : Int)) = false := beq_eq_false_iff_ne.mpr c84
                                          have c84b1 : (x6_3 != (a0.size : Int)) = true := bne_iff_ne.mpr c84
                                          obtain ⟨ji87, hji87⟩ : ∃ j_ : Int, (wrap64 (x4_1 + 1)) = j_ := ⟨_, rfl⟩
                                          replace H : (if 0 ≤ (ji87) then (if (ji87) ≤ x6_3 then (if x6_3 ≤ (a0.size : Int) then ((topiaristref01_IsTerm.f k3 (a0.extract ((ji87) : Int).toNat (x6_3 : Int).toNat)).bind fun t122 => (if t122 = true then (if x103000_1.length < 4398046511104 then (topiaristref01_Tokens.l0 k3 a0 (wrap64 (x6_3 + 1)) (x103000_1 ++ [(⟨2, a0.extract ((ji87) : Int).toNat (x6_3 : Int).toNat, x4_1⟩ : S36)]) 0 0) else (none)) else (some (([] : List (S36)), 11, x4_1)))) else (none)) else (none)) else (none)) = some (r1, r2, r3) := by first | (rw [hji87] at H; exact H) | (simp only [hji87] at H ⊢; exact H)
                                          have hji87w : (IntKind.i64.wrap (x4_1 + 1)) = ji87 := (i64_w _).trans hji87
                                          by_cases c88 : 0 ≤ (ji87)
                                          · rw [if_pos c88] at H
                                            have c88b0 := eq_true c88
                                            have c88b1 : decide (0 ≤ (ji87)) = true := decide_eq_true c88
                                            clear c88
                                            by_cases c89 : (ji87) ≤ x6_3
                                            · rw [if_pos c89] at H
                                              have c89b0 := eq_true c89
                                              have c89b1 : decide ((ji87) ≤ x6_3) = true := decide_eq_true c89
                                              clear c89
                                              by_cases c90 : x6_3 ≤ (a0.size : Int)
                                              · rw [if_pos c90] at H
                                                have c90b0 := eq_true c90
                                                have c90b1 : decide (x6_3 ≤ (a0.size : Int)) = true := decide_eq_true c90
                                                clear c90
                                                replace H := Option.bind_eq_some_iff.mp H
                                                obtain ⟨t122, A910, H⟩ := H
                                                replace H : (if t122 = true then (if x103000_1.length < 4398046511104 then (topiaristref01_Tokens.l0 k3 a0 (wrap64 (x6_3 + 1)) (x103000_1 ++ [(⟨2, a0.extract ((ji87) : Int).toNat (x6_3 : Int).toNat, x4_1⟩ : S36)]) 0 0) else (none)) else (some (([] : List (S36)), 11, x4_1))) = some (r1, r2, r3) := H
                                                have A91 := Aside0.mk A910
                                                clear A910
                                                by_cases c92 : t122 = true
                                                · subst c92
                                                  have H1 : (if x103000_1.length < 4398046511104 then (topiaristref01_Tokens.l0 k3 a0 (wrap64 (x6_3 + 1)) (x103000_1 ++ [(⟨2, a0.extract ((ji87) : Int).toNat (x6_3 : Int).toNat, x4_1⟩ : S36)]) 0 0) else (none)) = some (r1, r2, r3) := by rw [if_pos rfl] at H; exact H
                                                  clear H
                                                  have H := H1
                                                  clear H1
                                                  have c93b0 := eq_true (of_decide_eq_true (by first | (with_reducible assumption) | assumption) : 0 ≤ (ji87))
                                                  have c94b0 := eq_true (of_decide_eq_true (by first | (with_reducible assumption) | assumption) : (ji87) ≤ x6_3)
                                                  have c95b0 := eq_true (of_decide_eq_true (by first | (with_reducible assumption) | assumption) : x6_3 ≤ (a0.size : Int))
                                                  by_cases c96 : x103000_1.length < 4398046511104
                                                  · rw [if_pos c96] at H
                                                    have LMc96 := Aside0.mk c96
                                                    clear c96
                                                    obtain ⟨y123, hy123⟩ : ∃ y_ : List (S36), y_ = (x103000_1 ++ [(⟨2, a0.extract ((ji87) : Int).toNat (x6_3 : Int).toNat, x4_1⟩ : S36)]) := ⟨_, rfl⟩
                                                    replace H : (topiaristref01_Tokens.l0 k3 a0 (wrap64 (x6_3 + 1)) y123 0 0) = some (r1, r2, r3) := by first | (rw [hy123]; with_reducible exact H) | (have H2_ := (Option.bind_some _ _).symm.trans H; rw [hy123]; with_reducible exact H2_) | (have H2_ := (Option.bind_some _ _).symm.trans H; with_reducible exact H2_) | with_reducible exact H | (rw [hy123]; exact H) | exact H
                                                    have Ny123 := Aside0.mk hy123
                                                    clear hy123
                                                    have H' := Aside0.mk H
                                                    clear H
                                                    have p82 : 0 ≤ (x6_3 : Int) := of_decide_eq_true (by first | (with_reducible assumption) | assumption)
                                                    have q82 : x6_3 < (a0.size : Int) := of_decide_eq_true (by first | (with_reducible assumption) | assumption)
                                                    have hx82 := bt_at a0 x6_3
                                                    replace p82 := eq_true p82
                                                    replace q82 := eq_true q82
                                                    try go_wp2_with (first | (go_at_call 16; (with_reducible refine (topiaristref01_IsTerm.calls k3 (a0.extract ((ji87) : Int).toNat (x6_3 : Int).toNat) true _ A91.out).mono ?_); rintro e w' ⟨rfl, ⟨nd, rfl⟩⟩; (try (rw [drewN_self wr]; generalize hq_ : World.drewN wr _ = wr; have n0_ : Aside0 (Kd.R k36 36 wr w.heap.size (fun _ => True) u103000 x103000_1) := ⟨by rw [← hq_]; exact (by (with_reducible repeat (first | apply Kd.R_alloc | apply Kd.R_drewN | apply Kd.R_drew)); exact HO_103000.out)⟩; have n1_ : Aside0 (wr.heap[gb101]? = some (.cells #[.slice none 0 0, .int .i64 x102001_1, .int .i64 x102002_1] 30 (0, 0))) := ⟨by rw [← hq_]; exact (by (with_reducible repeat (first | refine blk_drewN ?_ _ | refine blk_drew ?_ | refine blk_alloc ?_ _)); exact BK101.out)⟩; have n2_ : Aside0 (wr.heap[gb102]? = some (.cells #[u103000, .int .i64 0, .int .i64 0] 30 (0, 0))) := ⟨by rw [← hq_]; exact (by (with_reducible repeat (first | refine blk_drewN ?_ _ | refine blk_drew ?_ | refine blk_alloc ?_ _)); exact BK102.out)⟩; have n3_ : Aside0 (Below w.heap.size w wr) := ⟨by rw [← hq_]; exact (by repeat (first | (with_reducible first | exact HB.out | apply below_alloc | apply pw_below_drewN | apply below_drew1 | refine below_set ?_ GE101.out | refine below_set ?_ GE102.out) | exact HB.out))⟩; clear HO_103000 BK101 BK102 HB hq_; have HO_103000 := n0_; have BK101 := n1_; have BK102 := n2_; have HB := n3_; clear n0_ n1_ n2_ n3_))))
                                                    have n0_ := Aside0.mk (Kd.R_drew HO_103000.out)
                                                    have n1_ := Aside0.mk (blk_drew BK101.out)
                                                    have n2_ := Aside0.mk (blk_drew BK102.out)
                                                    have n3_ := Aside0.mk (below_drew1 HB.out)
                                                    clear HO_103000
                                                    clear BK101
                                                    clear BK102
                                                    clear HB
                                                    have HO_103000 := n0_
                                                    have BK101 := n1_
                                                    have BK102 := n2_
                                                    have HB := n3_
                                                    clear n0_ n1_ n2_ n3_
                                                    refine start_ (n := 13) (S := fun w' => w'.cell? ⟨gb102, 0, none⟩ = some (u103000) ∧ w'.cell? ⟨gb102, 1, none⟩ = some (.int .i64 0) ∧ w'.cell? ⟨gb102, 2, none⟩ = some (.int .i64 0)) (ds := [12]) #[false, false, false, false, false, false, false, false, false, false, false, false, false] (by kernel_rfl) rfl rfl ⟨(blk_cell BK102.out 0).trans rfl, (blk_cell BK102.out 1).trans rfl, (blk_cell BK102.out 2).trans rfl⟩ (fun hHeld => ?_); refine with_tabW topiaristref01_Tokens.tab30 topiaristref01_Tokens.bits30 (fun HT_ HW_ => ?_)
                                                    generalize wr.drew = w97 at HO_103000 BK101 BK102 HB hHeld ⊢
                                                    refine pure_ (i := 0) (N := some 143) (v := ?_) (a' := ?_) #[true, false, false, false, false, false, false, false, false, false, false, false, false] rfl rfl (any_of HT_.out (by kernel_rfl)) (fun _ _ _ h => h) (Or.inl ⟨by rfl, ?_⟩) ?_ ?_
                                                    rotate_left
                                                    · intro w'
                                                      go_simp
                                                      with_reducible rfl
                                                    rotate_left
                                                    · simp only [Act.put, List.setIfInBounds_toArray, List.set_cons_zero, List.set_cons_succ, i64_w, i32_w]
                                                      rfl
                                                    refine pure_ (i := 2) (N := some 145) (v := ?_) (a' := ?_) #[true, false, true, false, false, false, false, false, false, false, false, false, false] rfl rfl (any_of HT_.out (by kernel_rfl)) (fun _ _ _ h => h) (Or.inl ⟨by rfl, ?_⟩) ?_ ?_
                                                    rotate_left
                                                    · intro w'
                                                      go_simp
                                                      with_reducible rfl
                                                    rotate_left
                                                    · simp only [Act.put, List.setIfInBounds_toArray, List.set_cons_zero, List.set_cons_succ, i64_w, i32_w]
                                                      rfl
                                                    refine pure_ (i := 3) (N := some 146) (v := ?_) (a' := ?_) #[true, false, true, true, false, false, false, false, false, false, false, false, false] rfl rfl (any_of HT_.out (by kernel_rfl)) (fun _ _ _ h => h) (Or.inl ⟨by rfl, ?_⟩) ?_ ?_
                                                    rotate_left
                                                    · intro w'
                                                      go_simp
                                                      with_reducible rfl
                                                    rotate_left
                                                    · simp only [Act.put, List.setIfInBounds_toArray, List.set_cons_zero, List.set_cons_succ, i64_w, i32_w]
                                                      rfl
                                                    refine pure_ (i := 4) (N := some 147) (v := ?_) (a' := ?_) #[true, false, true, true, true, false, false, false, false, false, false, false, false] rfl rfl (any_of HT_.out (by kernel_rfl)) (fun _ _ _ h => h) (Or.inl ⟨by rfl, ?_⟩) ?_ ?_
                                                    rotate_left
                                                    · intro w'
                                                      go_simp
                                                      with_reducible rfl
                                                    rotate_left
                                                    · simp only [Act.put, List.setIfInBounds_toArray, List.set_cons_zero, List.set_cons_succ, i64_w, i32_w]
                                                      rfl
                                                    refine pure_ (i := 5) (N := some 148) (v := ?_) (a' := ?_) #[true, false, true, true, true, true, false, false, false, false, false, false, false] rfl rfl (any_of HT_.out (by kernel_rfl)) (fun _ _ _ h => h) (Or.inl ⟨by rfl, ?_⟩) ?_ ?_
                                                    rotate_left
                                                    · intro w'
                                                      go_simp
                                                      with_reducible rfl
                                                    rotate_left
                                                    · simp only [Act.put, List.setIfInBounds_toArray, List.set_cons_zero, List.set_cons_succ, i64_w, i32_w]
                                                      rfl
                                                    refine pure_ (i := 6) (N := some 149) (v := ?_) (a' := ?_) #[true, false, true, true, true, true, true, false, false, false, false, false, false] rfl rfl (any_of HT_.out (by kernel_rfl)) (fun _ _ _ h => h) (Or.inl ⟨by rfl, ?_⟩) ?_ ?_
                                                    rotate_left
                                                    · intro w'
                                                      go_simp
                                                      with_reducible rfl
                                                    rotate_left
                                                    · simp only [Act.put, List.setIfInBounds_toArray, List.set_cons_zero, List.set_cons_succ, i64_w, i32_w]
                                                      rfl
                                                    refine pure_ (i := 7) (N := some 150) (v := ?_) (a' := ?_) #[true, false, true, true, true, true, true, true, false, false, false, false, false] rfl rfl (any_of HT_.out (by kernel_rfl)) (fun _ _ _ h => h) (Or.inl ⟨by rfl, ?_⟩) ?_ ?_
                                                    rotate_left
                                                    · intro w'
                                                      go_simp
                                                      with_reducible rfl
                                                    rotate_left
                                                    · simp only [Act.put, List.setIfInBounds_toArray, List.set_cons_zero, List.set_cons_succ, i64_w, i32_w]
                                                      rfl
                                                    refine pure_ (i := 8) (N := some 151) (v := ?_) (a' := ?_) #[true, false, true, true, true, true, true, true, true, false, false, false, false] rfl rfl (any_of HT_.out (by kernel_rfl)) (fun _ _ _ h => h) (Or.inl ⟨by rfl, ?_⟩) ?_ ?_
                                                    rotate_left
                                                    · intro w'
                                                      go_simp
                                                      with_reducible rfl
                                                    rotate_left
                                                    · simp only [Act.put, List.setIfInBounds_toArray, List.set_cons_zero, List.set_cons_succ, i64_w, i32_w]
                                                      rfl
                                                    refine take_ (i := 1) (N := some 144) (v := ?_) (a' := ?_) #[true, true, true, true, true, true, true, true, true, false, false, false, false] rfl rfl (take_ofW HT_.out HW_.out (by kernel_rfl)) (fun _ _ _ h => h) (Or.inl ⟨by rfl, ?_⟩) hHeld ?_ ?_
                                                    rotate_left
                                                    · rintro w' ⟨s0, s1, s2⟩
                                                      go_simp
                                                      with_reducible rfl
                                                    rotate_left
                                                    · simp only [Act.put, List.setIfInBounds_toArray, List.set_cons_zero, List.set_cons_succ, i64_w, i32_w]
                                                      rfl
                                                    refine one_ (i := 9) (N := some 152) #[true, true, true, true, true, true, true, true, true, true, false, false, false] rfl rfl (one_of HT_.out (by kernel_rfl)) (by decide) (fun K hK => ?_)
                                                    refine value_ (w1 := ?_) (v := ?_) (by rfl) rfl ?_ ?_
                                                    rotate_left 2
                                                    · go_simp
                                                      constructor
                                                      · rfl
                                                      · rfl
                                                    refine hK.out _ _ ⟨(blk_cell (blk_alloc BK102.out _) 0).trans rfl, (blk_cell (blk_alloc BK102.out _) 1).trans rfl, (blk_cell (blk_alloc BK102.out _) 2).trans rfl⟩ (fun hHeld => ?_)
                                                    clear hK K
                                                    refine norm_ (a' := ?_) ?_ ?_
                                                    rotate_left
                                                    · show Act.put _ (some 152) _ = _
                                                      simp only [Act.put, List.setIfInBounds_toArray, List.set_cons_zero, List.set_cons_succ, i64_w, i32_w]
                                                      rfl
                                                    refine one_ (i := 10) (N := some 153) #[true, true, true, true, true, true, true, true, true, true, true, false, false] rfl rfl (one_of HT_.out (by kernel_rfl)) (by decide) (fun K hK => ?_)
                                                    refine Kd.R_append_step k36 (w0 := w) w.heap.size (by rfl) (.tmp 144) (.tmp 152) 23 36 (.agg #[(.int .i64 0), (.string ⟨#[]⟩), (.int .i64 0)]) 32 rfl Try.underlying23 info36 rfl (by decide) (by omega) u103000 x103000_1 (⟨2, a0.extract ((ji87) : Int).toNat (x6_3 : Int).toNat, x4_1⟩ : S36) [.int .i64 2, .string (a0.extract ((ji87) : Int).toNat (x6_3 : Int).toNat), .int .i64 x4_1] (fun _ => True) (fun _ => False) rfl rfl ?aP (fun _ hk => hk.elim) ?aF ?aO ?aB ?aS ?aL ?_
                                                    (case aP => exact k36_mkM _ _ _ (⟨2, a0.extract ((ji87) : Int).toNat (x6_3 : Int).toNat, x4_1⟩ : S36))
                                                    (case aB => exact (by repeat (first | (with_reducible first | exact HB.out | apply below_alloc | apply pw_below_drewN | apply below_drew1 | refine below_set ?_ GE101.out | refine below_set ?_ GE102.out) | exact HB.out)))
                                                    (case aF => exact (fun _ _ => trivial))
                                                    (case aO => exact (by (with_reducible repeat (first | apply Kd.R_alloc | apply Kd.R_drewN | apply Kd.R_drew)); exact HO_103000.out))
                                                    (case aS => exact (below_size (by repeat (first | (with_reducible first | exact HB.out | apply below_alloc | apply pw_below_drewN | apply below_drew1 | refine below_set ?_ GE101.out | refine below_set ?_ GE102.out) | exact HB.out))))
                                                    (case aL => have := LMc96.out; omega)
                                                    intro v124 w98 ho hb hg hat
                                                    rw [← Ny123.out] at ho
                                                    have n0_ := Aside0.mk (blk_grown (g := gb101) (o := .cells #[.slice none 0 0, .int .i64 x102001_1, .int .i64 x102002_1] 30 (0, 0)) (by (with_reducible repeat (first | refine blk_drewN ?_ _ | refine blk_drew ?_ | refine blk_alloc ?_ _)); exact BK101.out) hg (Kd.R_ne HO_103000.out BK101.out (by decide)))
                                                    have n1_ := Aside0.mk (blk_grown (g := gb102) (o := .cells #[u103000, .int .i64 0, .int .i64 0] 30 (0, 0)) (by (with_reducible repeat (first | refine blk_drewN ?_ _ | refine blk_drew ?_ | refine blk_alloc ?_ _)); exact BK102.out) hg (Kd.R_ne HO_103000.out BK102.out (by decide)))
                                                    have n2_ := Aside0.mk (hb)
                                                    have n3_ := Aside0.mk (ho)
                                                    clear BK101
                                                    clear BK102
                                                    clear HB
                                                    clear HO_103000
                                                    have BK101 := n0_
                                                    have BK102 := n1_
                                                    have HB := n2_
                                                    have HO125 := n3_
                                                    clear n0_ n1_ n2_ n3_
                                                    clear ho hb hg hat
                                                    obtain ⟨Ao99, co99, eo99⟩ := Kd.R_slice HO125.out
                                                    (first | subst eo99 | (injection eo99 with f1_ f2_ f3_; have f4_ := f1_.symm; have f5_ := f3_.symm; clear f1_ f2_ f3_; subst f4_; subst f5_))
                                                    refine hK.out _ _ ⟨(blk_cell BK102.out 0).trans rfl, (blk_cell BK102.out 1).trans rfl, (blk_cell BK102.out 2).trans rfl⟩ (fun hHeld => ?_)
                                                    clear hK K
                                                    refine norm_ (a' := ?_) ?_ ?_
                                                    rotate_left
                                                    · show Act.put _ (some 153) _ = _
                                                      simp only [Act.put, List.setIfInBounds_toArray, List.set_cons_zero, List.set_cons_succ, i64_w, i32_w]
                                                      rfl
                                                    refine pure_ (i := 11) (N := some 154) (v := ?_) (a' := ?_) #[true, true, true, true, true, true, true, true, true, true, true, true, false] rfl rfl (any_of HT_.out (by kernel_rfl)) (fun _ _ _ h => h) (Or.inl ⟨by rfl, ?_⟩) ?_ ?_
                                                    rotate_left
                                                    · intro w'
                                                      go_simp
                                                      with_reducible rfl
                                                    rotate_left
                                                    · simp only [Act.put, List.setIfInBounds_toArray, List.set_cons_zero, List.set_cons_succ, i64_w, i32_w]
                                                      rfl
                                                    refine last_ (i := 12) (N := none) #[true, true, true, true, true, true, true, true, true, true, true, true, true] rfl rfl (one_of HT_.out (by kernel_rfl)) (by decide) (fun K hK => ?_)
                                                    have hs100 : w98.cell? ⟨gb102, 0, none⟩ = some (u103000) := (blk_cell BK102.out 0).trans rfl
                                                    have hfs100 := blk_frozen BK102.out 0
                                                    have hns100_0 := NB101_102.out
                                                    have hms100_0 := NB102_101.out
                                                    refine skip_ (w1 := ?_) (by rfl) rfl ?_ ?_
                                                    rotate_left
                                                    · go_simp
                                                      rfl
                                                    refine hK.out _ _ ?_
                                                    clear hK K
                                                    refine done_ (done_of HT_.out (by kernel_rfl)) ?_
                                                    try go_wp2
                                                    go_roundg k3
                                                    case measure => have := HK1.out; have := HJ11.out; have := HK3.out; omega
                                                    case rel => exact ⟨(wrap64 (x6_3 + 1)), (x102001_1), (x102002_1), (y123), (.slice Ao99 y123.length co99), (by first | rfl | (simp; done) | (simp [*]; done)), H', ⟨by have := HK1.out; have := HJ11.out; have := HK3.out; omega⟩, ⟨by (with_reducible repeat (first | apply Kd.R_alloc | apply Kd.R_drewN | apply Kd.R_drew)); exact Kd.R_mono (Kd.R_far (p := ⟨gb102, 0, none⟩) (Kd.R_types HO125.out BK102.out (by decide)) (fun _ hk => hk.2) (.slice Ao99 y123.length co99)) (fun _ hk => trivial)⟩, ⟨by (with_reducible repeat (first | refine blk_drewN ?_ _ | refine blk_drew ?_ | refine blk_alloc ?_ _)); refine blk_far ?_ NB101_102.out _; (with_reducible repeat (first | refine blk_drewN ?_ _ | refine blk_drew ?_ | refine blk_alloc ?_ _)); exact BK101.out⟩, ⟨by (with_reducible repeat (first | refine blk_drewN ?_ _ | refine blk_drew ?_ | refine blk_alloc ?_ _)); refine blk_put (cs := #[u103000, .int .i64 0, .int .i64 0]) ?_ 0 _ rfl; (with_reducible repeat (first | refine blk_drewN ?_ _ | refine blk_drew ?_ | refine blk_alloc ?_ _)); exact BK102.out⟩, ⟨by repeat (first | (with_reducible first | exact HB.out | apply below_alloc | apply pw_below_drewN | apply below_drew1 | refine below_set ?_ GE101.out | refine below_set ?_ GE102.out) | exact HB.out)⟩⟩
                                                  · rw [if_neg c96] at H
                                                    exact absurd H (by simp)
                                                · replace c92 := Bool.eq_false_iff.mpr c92
                                                  subst c92
                                                  have H1 : (some (([] : List (S36)), 11, x4_1)) = some (r1, r2, r3) := by rw [if_neg (show ¬ (false = true) by decide)] at H; exact H
                                                  clear H
                                                  have H := H1
                                                  clear H1
                                                  simp only [Option.some.injEq, Prod.mk.injEq] at H
                                                  obtain ⟨rfl, rfl, rfl⟩ := H
                                                  have p82 : 0 ≤ (x6_3 : Int) := of_decide_eq_true (by first | (with_reducible assumption) | assumption)
                                                  have q82 : x6_3 < (a0.size : Int) := of_decide_eq_true (by first | (with_reducible assumption) | assumption)
                                                  have hx82 := bt_at a0 x6_3
                                                  replace p82 := eq_true p82
                                                  replace q82 := eq_true q82
                                                  go_wp2_with (first | (go_at_call 16; (with_reducible refine (topiaristref01_IsTerm.calls k3 (a0.extract ((ji87) : Int).toNat (x6_3 : Int).toNat) false _ A91.out).mono ?_); rintro e w' ⟨rfl, ⟨nd, rfl⟩⟩; (try (rw [drewN_self wr]; generalize hq_ : World.drewN wr _ = wr; have n0_ : Aside0 (Kd.R k36 36 wr w.heap.size (fun _ => True) u103000 x103000_1) := ⟨by rw [← hq_]; exact (by (with_reducible repeat (first | apply Kd.R_alloc | apply Kd.R_drewN | apply Kd.R_drew)); exact HO_103000.out)⟩; have n1_ : Aside0 (wr.heap[gb101]? = some (.cells #[.slice none 0 0, .int .i64 x102001_1, .int .i64 x102002_1] 30 (0, 0))) := ⟨by rw [← hq_]; exact (by (with_reducible repeat (first | refine blk_drewN ?_ _ | refine blk_drew ?_ | refine blk_alloc ?_ _)); exact BK101.out)⟩; have n2_ : Aside0 (wr.heap[gb102]? = some (.cells #[u103000, .int .i64 0, .int .i64 0] 30 (0, 0))) := ⟨by rw [← hq_]; exact (by (with_reducible repeat (first | refine blk_drewN ?_ _ | refine blk_drew ?_ | refine blk_alloc ?_ _)); exact BK102.out)⟩; have n3_ : Aside0 (Below w.heap.size w wr) := ⟨by rw [← hq_]; exact (by repeat (first | (with_reducible first | exact HB.out | apply below_alloc | apply pw_below_drewN | apply below_drew1 | refine below_set ?_ GE101.out | refine below_set ?_ GE102.out) | exact HB.out))⟩; clear HO_103000 BK101 BK102 HB hq_; have HO_103000 := n0_; have BK101 := n1_; have BK102 := n2_; have HB := n3_; clear n0_ n1_ n2_ n3_)); have hnb101 := NB101_102.out; have hnc101 := NB102_101.out; have hcz102_0 : wr.cell? ⟨gb101, 0, none⟩ = some (.slice none 0 0) := (blk_cell BK101.out 0).trans rfl; have hcz102_1 : wr.cell? ⟨gb101, 1, none⟩ = some (.int .i64 x102001_1) := (blk_cell BK101.out 1).trans rfl; have hcz102_2 : wr.cell? ⟨gb101, 2, none⟩ = some (.int .i64 x102002_1) := (blk_cell BK101.out 2).trans rfl; have hfz102_0 := blk_frozen BK101.out 0; have hfz102_1 := blk_frozen BK101.out 1; have hfz102_2 := blk_frozen BK101.out 2))
                                                  refine bodyPost_ret (results_cell_row rfl _ _ gb101 30 #[.slice none 0 0, .int .i64 11, .int .i64 x4_1] (0, 0) _ rfl (by (with_reducible repeat (first | refine blk_drewN ?_ _ | refine blk_drew ?_ | refine blk_alloc ?_ _)); refine blk_put (cs := #[.slice none 0 0, .int .i64 11, .int .i64 x102002_1]) ?_ 2 _ rfl; (with_reducible repeat (first | refine blk_drewN ?_ _ | refine blk_drew ?_ | refine blk_alloc ?_ _)); refine blk_put (cs := #[.slice none 0 0, .int .i64 x102001_1, .int .i64 x102002_1]) ?_ 1 _ rfl; (with_reducible repeat (first | refine blk_drewN ?_ _ | refine blk_drew ?_ | refine blk_alloc ?_ _)); refine blk_put (cs := #[.slice none 0 0, .int .i64 x102001_1, .int .i64 x102002_1]) ?_ 0 _ rfl; (with_reducible repeat (first | refine blk_drewN ?_ _ | refine blk_drew ?_ | refine blk_alloc ?_ _)); exact BK101.out) Try.underlying30 rfl (by kernel_rfl)) rfl ?_
                                                  exact ⟨_, by first | rfl | (simp [errW_none, errW_some] <;> rfl) | (simp only [← hji87]; first | rfl | (simp [errW_none, errW_some] <;> rfl)) | (simp [*, errW_none, errW_some] <;> rfl), by first | exact Kd.R_nil _ _ _ _ _ | exact Kd.N_nil _ _ _ _ _ | exact Kd.V_nil _ _ _ _ _ | exact Kd.Q_nil _ _ _ _ _ | exact Kd.S_nil _ _ _ _ _, by repeat (first | (with_reducible first | exact HB.out | apply below_alloc | apply pw_below_drewN | apply below_drew1 | refine below_set ?_ GE101.out | refine below_set ?_ GE102.out) | exact HB.out)⟩
                                              · rw [if_neg c90] at H
                                                exact absurd H (by simp)
                                            · rw [if_neg c89] at H
                                              exact absurd H (by simp)
                                          · rw [if_neg c88] at H
                                            exact absurd H (by simp)
                                      · rw [if_neg c83] at H
                                        have c83b0 : ((bt a0 x6_3) == 39) = false := beq_eq_false_iff_ne.mpr c83
                                        have c83b1 : ((bt a0 x6_3) != 39) = true := bne_iff_ne.mpr c83
                                        have H' := Aside0.mk H
                                        clear H
                                        have p82 : 0 ≤ (x6_3 : Int) := of_decide_eq_true (by first | (with_reducible assumption) | assumption)
                                        have q82 : x6_3 < (a0.size : Int) := of_decide_eq_true (by first | (with_reducible assumption) | assumption)
                                        have hx82 := bt_at a0 x6_3
                                        replace p82 := eq_true p82
                                        replace q82 := eq_true q82
                                        go_wp2
                                        go_roundg k3
                                        case measure => have := HK1.out; have := HJ11.out; have := HK3.out; omega
                                        case rel => exact ⟨(wrap64 (x6_3 + 1)), (by first | rfl | (simp; done) | (simp [*]; done)), H', ⟨by have := HK1.out; have := HJ11.out; have := HK3.out; omega⟩, ⟨by (with_reducible repeat (first | apply Kd.R_alloc | apply Kd.R_drewN | apply Kd.R_drew)); exact HO_103000.out⟩, ⟨by (with_reducible repeat (first | refine blk_drewN ?_ _ | refine blk_drew ?_ | refine blk_alloc ?_ _)); exact BK101.out⟩, ⟨by (with_reducible repeat (first | refine blk_drewN ?_ _ | refine blk_drew ?_ | refine blk_alloc ?_ _)); exact BK102.out⟩, ⟨by repeat (first | (with_reducible first | exact HB.out | apply below_alloc | apply pw_below_drewN | apply below_drew1 | refine below_set ?_ GE101.out | refine below_set ?_ GE102.out) | exact HB.out)⟩⟩
                                    · rw [if_neg c81] at H
                                      exact absurd H (by simp)
                                  · rw [if_neg c80] at H
                                    have c80b0 : decide (x6_3 < (a0.size : Int)) = false := decide_eq_false c80
                                    clear c80
                                    by_cases c103 : x6_3 = (a0.size : Int)
                                    · rw [if_pos c103] at H
                                      have c103b0 : (x6_3 == (a0.size : Int)) = true := beq_iff_eq.mpr c103
                                      have c103b1 : (x6_3 != (a0.size : Int)) = false := bne_eq_false_iff_eq.mpr c103
                                      clear c103
                                      simp only [Option.some.injEq, Prod.mk.injEq] at H
                                      obtain ⟨rfl, rfl, rfl⟩ := H
                                      have hnb104 := NB101_102.out
                                      have hnc104 := NB102_101.out
                                      have hcz105_0 : wr.cell? ⟨gb101, 0, none⟩ = some (.slice none 0 0) := (blk_cell BK101.out 0).trans rfl
                                      have hcz105_1 : wr.cell? ⟨gb101, 1, none⟩ = some (.int .i64 x102001_1) := (blk_cell BK101.out 1).trans rfl
                                      have hcz105_2 : wr.cell? ⟨gb101, 2, none⟩ = some (.int .i64 x102002_1) := (blk_cell BK101.out 2).trans rfl
                                      have hfz105_0 := blk_frozen BK101.out 0
                                      have hfz105_1 := blk_frozen BK101.out 1
                                      have hfz105_2 := blk_frozen BK101.out 2
                                      go_wp2
                                      refine bodyPost_ret (results_cell_row rfl _ _ gb101 30 #[.slice none 0 0, .int .i64 11, .int .i64 x4_1] (0, 0) _ rfl (by (with_reducible repeat (first | refine blk_drewN ?_ _ | refine blk_drew ?_ | refine blk_alloc ?_ _)); refine blk_put (cs := #[.slice none 0 0, .int .i64 11, .int .i64 x102002_1]) ?_ 2 _ rfl; (with_reducible repeat (first | refine blk_drewN ?_ _ | refine blk_drew ?_ | refine blk_alloc ?_ _)); refine blk_put (cs := #[.slice none 0 0, .int .i64 x102001_1, .int .i64 x102002_1]) ?_ 1 _ rfl; (with_reducible repeat (first | refine blk_drewN ?_ _ | refine blk_drew ?_ | refine blk_alloc ?_ _)); refine blk_put (cs := #[.slice none 0 0, .int .i64 x102001_1, .int .i64 x102002_1]) ?_ 0 _ rfl; (with_reducible repeat (first | refine blk_drewN ?_ _ | refine blk_drew ?_ | refine blk_alloc ?_ _)); exact BK101.out) Try.underlying30 rfl (by kernel_rfl)) rfl ?_
                                      exact ⟨_, by first | rfl | (simp [errW_none, errW_some] <;> rfl) | (simp [*, errW_none, errW_some] <;> rfl), by first | exact Kd.R_nil _ _ _ _ _ | exact Kd.N_nil _ _ _ _ _ | exact Kd.V_nil _ _ _ _ _ | exact Kd.Q_nil _ _ _ _ _ | exact Kd.S_nil _ _ _ _ _, by repeat (first | (with_reducible first | exact HB.out | apply below_alloc | apply pw_below_drewN | apply below_drew1 | refine below_set ?_ GE101.out | refine below_set ?_ GE102.out) | exact HB.out)⟩
                                    · rw [if_neg c103] at H
                                      have c103b0 : (x6_3 == (a0.size : Int)) = false := beq_eq_false_iff_ne.mpr c103
                                      have c103b1 : (x6_3 != (a0.size : Int)) = true := bne_iff_ne.mpr c103
                                      obtain ⟨ji106, hji106⟩ : ∃ j_ : Int, (wrap64 (x4_1 + 1)) = j_ := ⟨_, rfl⟩
                                      replace H : (if 0 ≤ (ji106) then (if (ji106) ≤ x6_3 then (if x6_3 ≤ (a0.size : Int) then ((topiaristref01_IsTerm.f k3 (a0.extract ((ji106) : Int).toNat (x6_3 : Int).toNat)).bind fun t126 => (if t126 = true then (if x103000_1.length < 4398046511104 then (topiaristref01_Tokens.l0 k3 a0 (wrap64 (x6_3 + 1)) (x103000_1 ++ [(⟨2, a0.extract ((ji106) : Int).toNat (x6_3 : Int).toNat, x4_1⟩ : S36)]) 0 0) else (none)) else (some (([] : List (S36)), 11, x4_1)))) else (none)) else (none)) else (none)) = some (r1, r2, r3) := by first | (rw [hji106] at H; exact H) | (simp only [hji106] at H ⊢; exact H)
                                      have hji106w : (IntKind.i64.wrap (x4_1 + 1)) = ji106 := (i64_w _).trans hji106
                                      by_cases c107 : 0 ≤ (ji106)
                                      · rw [if_pos c107] at H
                                        have c107b0 := eq_true c107
                                        have c107b1 : decide (0 ≤ (ji106)) = true := decide_eq_true c107
                                        clear c107
                                        by_cases c108 : (ji106) ≤ x6_3
                                        · rw [if_pos c108] at H
                                          have c108b0 := eq_true c108
                                          have c108b1 : decide ((ji106) ≤ x6_3) = true := decide_eq_true c108
                                          clear c108
                                          by_cases c109 : x6_3 ≤ (a0.size : Int)
                                          · rw [if_pos c109] at H
                                            have c109b0 := eq_true c109
                                            have c109b1 : decide (x6_3 ≤ (a0.size : Int)) = true := decide_eq_true c109
                                            clear c109
                                            replace H := Option.bind_eq_some_iff.mp H
                                            obtain ⟨t126, A1100, H⟩ := H
                                            replace H : (if t126 = true then (if x103000_1.length < 4398046511104 then (topiaristref01_Tokens.l0 k3 a0 (wrap64 (x6_3 + 1)) (x103000_1 ++ [(⟨2, a0.extract ((ji106) : Int).toNat (x6_3 : Int).toNat, x4_1⟩ : S36)]) 0 0) else (none)) else (some (([] : List (S36)), 11, x4_1))) = some (r1, r2, r3) := H
                                            have A110 := Aside0.mk A1100
                                            clear A1100
                                            by_cases c111 : t126 = true
                                            · subst c111
                                              have H1 : (if x103000_1.length < 4398046511104 then (topiaristref01_Tokens.l0 k3 a0 (wrap64 (x6_3 + 1)) (x103000_1 ++ [(⟨2, a0.extract ((ji106) : Int).toNat (x6_3 : Int).toNat, x4_1⟩ : S36)]) 0 0) else (none)) = some (r1, r2, r3) := by rw [if_pos rfl] at H; exact H
                                              clear H
                                              have H := H1
                                              clear H1
                                              have c112b0 := eq_true (of_decide_eq_true (by first | (with_reducible assumption) | assumption) : 0 ≤ (ji106))
                                              have c113b0 := eq_true (of_decide_eq_true (by first | (with_reducible assumption) | assumption) : (ji106) ≤ x6_3)
                                              have c114b0 := eq_true (of_decide_eq_true (by first | (with_reducible assumption) | assumption) : x6_3 ≤ (a0.size : Int))
                                              by_cases c115 : x103000_1.length < 4398046511104
                                              · rw [if_pos c115] at H
                                                have LMc115 := Aside0.mk c115
                                                clear c115
                                                obtain ⟨y127, hy127⟩ : ∃ y_ : List (S36), y_ = (x103000_1 ++ [(⟨2, a0.extract ((ji106) : Int).toNat (x6_3 : Int).toNat, x4_1⟩ : S36)]) := ⟨_, rfl⟩
                                                replace H : (topiaristref01_Tokens.l0 k3 a0 (wrap64 (x6_3 + 1)) y127 0 0) = some (r1, r2, r3) := by first | (rw [hy127]; with_reducible exact H) | (have H2_ := (Option.bind_some _ _).symm.trans H; rw [hy127]; with_reducible exact H2_) | (have H2_ := (Option.bind_some _ _).symm.trans H; with_reducible exact H2_) | with_reducible exact H | (rw [hy127]; exact H) | exact H
                                                have Ny127 := Aside0.mk hy127
                                                clear hy127
                                                have H' := Aside0.mk H
                                                clear H
                                                try go_wp2_with (first | (go_at_call 16; (with_reducible refine (topiaristref01_IsTerm.calls k3 (a0.extract ((ji106) : Int).toNat (x6_3 : Int).toNat) true _ A110.out).mono ?_); rintro e w' ⟨rfl, ⟨nd, rfl⟩⟩; (try (rw [drewN_self wr]; generalize hq_ : World.drewN wr _ = wr; have n0_ : Aside0 (Kd.R k36 36 wr w.heap.size (fun _ => True) u103000 x103000_1) := ⟨by rw [← hq_]; exact (by (with_reducible repeat (first | apply Kd.R_alloc | apply Kd.R_drewN | apply Kd.R_drew)); exact HO_103000.out)⟩; have n1_ : Aside0 (wr.heap[gb101]? = some (.cells #[.slice none 0 0, .int .i64 x102001_1, .int .i64 x102002_1] 30 (0, 0))) := ⟨by rw [← hq_]; exact (by (with_reducible repeat (first | refine blk_drewN ?_ _ | refine blk_drew ?_ | refine blk_alloc ?_ _)); exact BK101.out)⟩; have n2_ : Aside0 (wr.heap[gb102]? = some (.cells #[u103000, .int .i64 0, .int .i64 0] 30 (0, 0))) := ⟨by rw [← hq_]; exact (by (with_reducible repeat (first | refine blk_drewN ?_ _ | refine blk_drew ?_ | refine blk_alloc ?_ _)); exact BK102.out)⟩; have n3_ : Aside0 (Below w.heap.size w wr) := ⟨by rw [← hq_]; exact (by repeat (first | (with_reducible first | exact HB.out | apply below_alloc | apply pw_below_drewN | apply below_drew1 | refine below_set ?_ GE101.out | refine below_set ?_ GE102.out) | exact HB.out))⟩; clear HO_103000 BK101 BK102 HB hq_; have HO_103000 := n0_; have BK101 := n1_; have BK102 := n2_; have HB := n3_; clear n0_ n1_ n2_ n3_))))
                                                have n0_ := Aside0.mk (Kd.R_drew HO_103000.out)
                                                have n1_ := Aside0.mk (blk_drew BK101.out)
                                                have n2_ := Aside0.mk (blk_drew BK102.out)
                                                have n3_ := Aside0.mk (below_drew1 HB.out)
                                                clear HO_103000
                                                clear BK101
                                                clear BK102
                                                clear HB
                                                have HO_103000 := n0_
                                                have BK101 := n1_
                                                have BK102 := n2_
                                                have HB := n3_
                                                clear n0_ n1_ n2_ n3_
                                                refine start_ (n := 13) (S := fun w' => w'.cell? ⟨gb102, 0, none⟩ = some (u103000) ∧ w'.cell? ⟨gb102, 1, none⟩ = some (.int .i64 0) ∧ w'.cell? ⟨gb102, 2, none⟩ = some (.int .i64 0)) (ds := [12]) #[false, false, false, false, false, false, false, false, false, false, false, false, false] (by kernel_rfl) rfl rfl ⟨(blk_cell BK102.out 0).trans rfl, (blk_cell BK102.out 1).trans rfl, (blk_cell BK102.out 2).trans rfl⟩ (fun hHeld => ?_); refine with_tabW topiaristref01_Tokens.tab30 topiaristref01_Tokens.bits30 (fun HT_ HW_ => ?_)
                                                generalize wr.drew = w116 at HO_103000 BK101 BK102 HB hHeld ⊢
                                                refine pure_ (i := 0) (N := some 143) (v := ?_) (a' := ?_) #[true, false, false, false, false, false, false, false, false, false, false, false, false] rfl rfl (any_of HT_.out (by kernel_rfl)) (fun _ _ _ h => h) (Or.inl ⟨by rfl, ?_⟩) ?_ ?_
                                                rotate_left
                                                · intro w'
                                                  go_simp
                                                  with_reducible rfl
                                                rotate_left
                                                · simp only [Act.put, List.setIfInBounds_toArray, List.set_cons_zero, List.set_cons_succ, i64_w, i32_w]
                                                  rfl
                                                refine pure_ (i := 2) (N := some 145) (v := ?_) (a' := ?_) #[true, false, true, false, false, false, false, false, false, false, false, false, false] rfl rfl (any_of HT_.out (by kernel_rfl)) (fun _ _ _ h => h) (Or.inl ⟨by rfl, ?_⟩) ?_ ?_
                                                rotate_left
                                                · intro w'
                                                  go_simp
                                                  with_reducible rfl
                                                rotate_left
                                                · simp only [Act.put, List.setIfInBounds_toArray, List.set_cons_zero, List.set_cons_succ, i64_w, i32_w]
                                                  rfl
                                                refine pure_ (i := 3) (N := some 146) (v := ?_) (a' := ?_) #[true, false, true, true, false, false, false, false, false, false, false, false, false] rfl rfl (any_of HT_.out (by kernel_rfl)) (fun _ _ _ h => h) (Or.inl ⟨by rfl, ?_⟩) ?_ ?_
                                                rotate_left
                                                · intro w'
                                                  go_simp
                                                  with_reducible rfl
                                                rotate_left
                                                · simp only [Act.put, List.setIfInBounds_toArray, List.set_cons_zero, List.set_cons_succ, i64_w, i32_w]
                                                  rfl
                                                refine pure_ (i := 4) (N := some 147) (v := ?_) (a' := ?_) #[true, false, true, true, true, false, false, false, false, false, false, false, false] rfl rfl (any_of HT_.out (by kernel_rfl)) (fun _ _ _ h => h) (Or.inl ⟨by rfl, ?_⟩) ?_ ?_
                                                rotate_left
                                                · intro w'
                                                  go_simp
                                                  with_reducible rfl
                                                rotate_left
                                                · simp only [Act.put, List.setIfInBounds_toArray, List.set_cons_zero, List.set_cons_succ, i64_w, i32_w]
                                                  rfl
                                                refine pure_ (i := 5) (N := some 148) (v := ?_) (a' := ?_) #[true, false, true, true, true, true, false, false, false, false, false, false, false] rfl rfl (any_of HT_.out (by kernel_rfl)) (fun _ _ _ h => h) (Or.inl ⟨by rfl, ?_⟩) ?_ ?_
                                                rotate_left
                                                · intro w'
                                                  go_simp
                                                  with_reducible rfl
                                                rotate_left
                                                · simp only [Act.put, List.setIfInBounds_toArray, List.set_cons_zero, List.set_cons_succ, i64_w, i32_w]
                                                  rfl
                                                refine pure_ (i := 6) (N := some 149) (v := ?_) (a' := ?_) #[true, false, true, true, true, true, true, false, false, false, false, false, false] rfl rfl (any_of HT_.out (by kernel_rfl)) (fun _ _ _ h => h) (Or.inl ⟨by rfl, ?_⟩) ?_ ?_
                                                rotate_left
                                                · intro w'
                                                  go_simp
                                                  with_reducible rfl
                                                rotate_left
                                                · simp only [Act.put, List.setIfInBounds_toArray, List.set_cons_zero, List.set_cons_succ, i64_w, i32_w]
                                                  rfl
                                                refine pure_ (i := 7) (N := some 150) (v := ?_) (a' := ?_) #[true, false, true, true, true, true, true, true, false, false, false, false, false] rfl rfl (any_of HT_.out (by kernel_rfl)) (fun _ _ _ h => h) (Or.inl ⟨by rfl, ?_⟩) ?_ ?_
                                                rotate_left
                                                · intro w'
                                                  go_simp
                                                  with_reducible rfl
                                                rotate_left
                                                · simp only [Act.put, List.setIfInBounds_toArray, List.set_cons_zero, List.set_cons_succ, i64_w, i32_w]
                                                  rfl
                                                refine pure_ (i := 8) (N := some 151) (v := ?_) (a' := ?_) #[true, false, true, true, true, true, true, true, true, false, false, false, false] rfl rfl (any_of HT_.out (by kernel_rfl)) (fun _ _ _ h => h) (Or.inl ⟨by rfl, ?_⟩) ?_ ?_
                                                rotate_left
                                                · intro w'
                                                  go_simp
                                                  with_reducible rfl
                                                rotate_left
                                                · simp only [Act.put, List.setIfInBounds_toArray, List.set_cons_zero, List.set_cons_succ, i64_w, i32_w]
                                                  rfl
                                                refine take_ (i := 1) (N := some 144) (v := ?_) (a' := ?_) #[true, true, true, true, true, true, true, true, true, false, false, false, false] rfl rfl (take_ofW HT_.out HW_.out (by kernel_rfl)) (fun _ _ _ h => h) (Or.inl ⟨by rfl, ?_⟩) hHeld ?_ ?_
                                                rotate_left
                                                · rintro w' ⟨s0, s1, s2⟩
                                                  go_simp
                                                  with_reducible rfl
                                                rotate_left
                                                · simp only [Act.put, List.setIfInBounds_toArray, List.set_cons_zero, List.set_cons_succ, i64_w, i32_w]
                                                  rfl
                                                refine one_ (i := 9) (N := some 152) #[true, true, true, true, true, true, true, true, true, true, false, false, false] rfl rfl (one_of HT_.out (by kernel_rfl)) (by decide) (fun K hK => ?_)
                                                refine value_ (w1 := ?_) (v := ?_) (by rfl) rfl ?_ ?_
                                                rotate_left 2
                                                · go_simp
                                                  constructor
                                                  · rfl
                                                  · rfl
                                                refine hK.out _ _ ⟨(blk_cell (blk_alloc BK102.out _) 0).trans rfl, (blk_cell (blk_alloc BK102.out _) 1).trans rfl, (blk_cell (blk_alloc BK102.out _) 2).trans rfl⟩ (fun hHeld => ?_)
                                                clear hK K
                                                refine norm_ (a' := ?_) ?_ ?_
                                                rotate_left
                                                · show Act.put _ (some 152) _ = _
                                                  simp only [Act.put, List.setIfInBounds_toArray, List.set_cons_zero, List.set_cons_succ, i64_w, i32_w]
                                                  rfl
                                                refine one_ (i := 10) (N := some 153) #[true, true, true, true, true, true, true, true, true, true, true, false, false] rfl rfl (one_of HT_.out (by kernel_rfl)) (by decide) (fun K hK => ?_)
                                                refine Kd.R_append_step k36 (w0 := w) w.heap.size (by rfl) (.tmp 144) (.tmp 152) 23 36 (.agg #[(.int .i64 0), (.string ⟨#[]⟩), (.int .i64 0)]) 32 rfl Try.underlying23 info36 rfl (by decide) (by omega) u103000 x103000_1 (⟨2, a0.extract ((ji106) : Int).toNat (x6_3 : Int).toNat, x4_1⟩ : S36) [.int .i64 2, .string (a0.extract ((ji106) : Int).toNat (x6_3 : Int).toNat), .int .i64 x4_1] (fun _ => True) (fun _ => False) rfl rfl ?aP (fun _ hk => hk.elim) ?aF ?aO ?aB ?aS ?aL ?_
                                                (case aP => exact k36_mkM _ _ _ (⟨2, a0.extract ((ji106) : Int).toNat (x6_3 : Int).toNat, x4_1⟩ : S36))
                                                (case aB => exact (by repeat (first | (with_reducible first | exact HB.out | apply below_alloc | apply pw_below_drewN | apply below_drew1 | refine below_set ?_ GE101.out | refine below_set ?_ GE102.out) | exact HB.out)))
                                                (case aF => exact (fun _ _ => trivial))
                                                (case aO => exact (by (with_reducible repeat (first | apply Kd.R_alloc | apply Kd.R_drewN | apply Kd.R_drew)); exact HO_103000.out))
                                                (case aS => exact (below_size (by repeat (first | (with_reducible first | exact HB.out | apply below_alloc | apply pw_below_drewN | apply below_drew1 | refine below_set ?_ GE101.out | refine below_set ?_ GE102.out) | exact HB.out))))
                                                (case aL => have := LMc115.out; omega)
                                                intro v128 w117 ho hb hg hat
                                                rw [← Ny127.out] at ho
                                                have n0_ := Aside0.mk (blk_grown (g := gb101) (o := .cells #[.slice none 0 0, .int .i64 x102001_1, .int .i64 x102002_1] 30 (0, 0)) (by (with_reducible repeat (first | refine blk_drewN ?_ _ | refine blk_drew ?_ | refine blk_alloc ?_ _)); exact BK101.out) hg (Kd.R_ne HO_103000.out BK101.out (by decide)))
                                                have n1_ := Aside0.mk (blk_grown (g := gb102) (o := .cells #[u103000, .int .i64 0, .int .i64 0] 30 (0, 0)) (by (with_reducible repeat (first | refine blk_drewN ?_ _ | refine blk_drew ?_ | refine blk_alloc ?_ _)); exact BK102.out) hg (Kd.R_ne HO_103000.out BK102.out (by decide)))
                                                have n2_ := Aside0.mk (hb)
                                                have n3_ := Aside0.mk (ho)
                                                clear BK101
                                                clear BK102
                                                clear HB
                                                clear HO_103000
                                                have BK101 := n0_
                                                have BK102 := n1_
                                                have HB := n2_
                                                have HO129 := n3_
                                                clear n0_ n1_ n2_ n3_
                                                clear ho hb hg hat
                                                obtain ⟨Ao118, co118, eo118⟩ := Kd.R_slice HO129.out
                                                (first | subst eo118 | (injection eo118 with f1_ f2_ f3_; have f4_ := f1_.symm; have f5_ := f3_.symm; clear f1_ f2_ f3_; subst f4_; subst f5_))
                                                refine hK.out _ _ ⟨(blk_cell BK102.out 0).trans rfl, (blk_cell BK102.out 1).trans rfl, (blk_cell BK102.out 2).trans rfl⟩ (fun hHeld => ?_)
                                                clear hK K
                                                refine norm_ (a' := ?_) ?_ ?_
                                                rotate_left
                                                · show Act.put _ (some 153) _ = _
                                                  simp only [Act.put, List.setIfInBounds_toArray, List.set_cons_zero, List.set_cons_succ, i64_w, i32_w]
                                                  rfl
                                                refine pure_ (i := 11) (N := some 154) (v := ?_) (a' := ?_) #[true, true, true, true, true, true, true, true, true, true, true, true, false] rfl rfl (any_of HT_.out (by kernel_rfl)) (fun _ _ _ h => h) (Or.inl ⟨by rfl, ?_⟩) ?_ ?_
                                                rotate_left
                                                · intro w'
                                                  go_simp
                                                  with_reducible rfl
                                                rotate_left
                                                · simp only [Act.put, List.setIfInBounds_toArray, List.set_cons_zero, List.set_cons_succ, i64_w, i32_w]
                                                  rfl
                                                refine last_ (i := 12) (N := none) #[true, true, true, true, true, true, true, true, true, true, true, true, true] rfl rfl (one_of HT_.out (by kernel_rfl)) (by decide) (fun K hK => ?_)
                                                have hs119 : w117.cell? ⟨gb102, 0, none⟩ = some (u103000) := (blk_cell BK102.out 0).trans rfl
                                                have hfs119 := blk_frozen BK102.out 0
                                                have hns119_0 := NB101_102.out
                                                have hms119_0 := NB102_101.out
                                                refine skip_ (w1 := ?_) (by rfl) rfl ?_ ?_
                                                rotate_left
                                                · go_simp
                                                  rfl
                                                refine hK.out _ _ ?_
                                                clear hK K
                                                refine done_ (done_of HT_.out (by kernel_rfl)) ?_
                                                try go_wp2
                                                go_roundg k3
                                                case measure => have := HK1.out; have := HJ11.out; have := HK3.out; omega
                                                case rel => exact ⟨(wrap64 (x6_3 + 1)), (x102001_1), (x102002_1), (y127), (.slice Ao118 y127.length co118), (by first | rfl | (simp; done) | (simp [*]; done)), H', ⟨by have := HK1.out; have := HJ11.out; have := HK3.out; omega⟩, ⟨by (with_reducible repeat (first | apply Kd.R_alloc | apply Kd.R_drewN | apply Kd.R_drew)); exact Kd.R_mono (Kd.R_far (p := ⟨gb102, 0, none⟩) (Kd.R_types HO129.out BK102.out (by decide)) (fun _ hk => hk.2) (.slice Ao118 y127.length co118)) (fun _ hk => trivial)⟩, ⟨by (with_reducible repeat (first | refine blk_drewN ?_ _ | refine blk_drew ?_ | refine blk_alloc ?_ _)); refine blk_far ?_ NB101_102.out _; (with_reducible repeat (first | refine blk_drewN ?_ _ | refine blk_drew ?_ | refine blk_alloc ?_ _)); exact BK101.out⟩, ⟨by (with_reducible repeat (first | refine blk_drewN ?_ _ | refine blk_drew ?_ | refine blk_alloc ?_ _)); refine blk_put (cs := #[u103000, .int .i64 0, .int .i64 0]) ?_ 0 _ rfl; (with_reducible repeat (first | refine blk_drewN ?_ _ | refine blk_drew ?_ | refine blk_alloc ?_ _)); exact BK102.out⟩, ⟨by repeat (first | (with_reducible first | exact HB.out | apply below_alloc | apply pw_below_drewN | apply below_drew1 | refine below_set ?_ GE101.out | refine below_set ?_ GE102.out) | exact HB.out)⟩⟩
                                              · rw [if_neg c115] at H
                                                exact absurd H (by simp)
                                            · replace c111 := Bool.eq_false_iff.mpr c111
                                              subst c111
                                              have H1 : (some (([] : List (S36)), 11, x4_1)) = some (r1, r2, r3) := by rw [if_neg (show ¬ (false = true) by decide)] at H; exact H
                                              clear H
                                              have H := H1
                                              clear H1
                                              simp only [Option.some.injEq, Prod.mk.injEq] at H
                                              obtain ⟨rfl, rfl, rfl⟩ := H
                                              go_wp2_with (first | (go_at_call 16; (with_reducible refine (topiaristref01_IsTerm.calls k3 (a0.extract ((ji106) : Int).toNat (x6_3 : Int).toNat) false _ A110.out).mono ?_); rintro e w' ⟨rfl, ⟨nd, rfl⟩⟩; (try (rw [drewN_self wr]; generalize hq_ : World.drewN wr _ = wr; have n0_ : Aside0 (Kd.R k36 36 wr w.heap.size (fun _ => True) u103000 x103000_1) := ⟨by rw [← hq_]; exact (by (with_reducible repeat (first | apply Kd.R_alloc | apply Kd.R_drewN | apply Kd.R_drew)); exact HO_103000.out)⟩; have n1_ : Aside0 (wr.heap[gb101]? = some (.cells #[.slice none 0 0, .int .i64 x102001_1, .int .i64 x102002_1] 30 (0, 0))) := ⟨by rw [← hq_]; exact (by (with_reducible repeat (first | refine blk_drewN ?_ _ | refine blk_drew ?_ | refine blk_alloc ?_ _)); exact BK101.out)⟩; have n2_ : Aside0 (wr.heap[gb102]? = some (.cells #[u103000, .int .i64 0, .int .i64 0] 30 (0, 0))) := ⟨by rw [← hq_]; exact (by (with_reducible repeat (first | refine blk_drewN ?_ _ | refine blk_drew ?_ | refine blk_alloc ?_ _)); exact BK102.out)⟩; have n3_ : Aside0 (Below w.heap.size w wr) := ⟨by rw [← hq_]; exact (by repeat (first | (with_reducible first | exact HB.out | apply below_alloc | apply pw_below_drewN | apply below_drew1 | refine below_set ?_ GE101.out | refine below_set ?_ GE102.out) | exact HB.out))⟩; clear HO_103000 BK101 BK102 HB hq_; have HO_103000 := n0_; have BK101 := n1_; have BK102 := n2_; have HB := n3_; clear n0_ n1_ n2_ n3_)); have hnb120 := NB101_102.out; have hnc120 := NB102_101.out; have hcz121_0 : wr.cell? ⟨gb101, 0, none⟩ = some (.slice none 0 0) := (blk_cell BK101.out 0).trans rfl; have hcz121_1 : wr.cell? ⟨gb101, 1, none⟩ = some (.int .i64 x102001_1) := (blk_cell BK101.out 1).trans rfl; have hcz121_2 : wr.cell? ⟨gb101, 2, none⟩ = some (.int .i64 x102002_1) := (blk_cell BK101.out 2).trans rfl; have hfz121_0 := blk_frozen BK101.out 0; have hfz121_1 := blk_frozen BK101.out 1; have hfz121_2 := blk_frozen BK101.out 2))
                                              refine bodyPost_ret (results_cell_row rfl _ _ gb101 30 #[.slice none 0 0, .int .i64 11, .int .i64 x4_1] (0, 0) _ rfl (by (with_reducible repeat (first | refine blk_drewN ?_ _ | refine blk_drew ?_ | refine blk_alloc ?_ _)); refine blk_put (cs := #[.slice none 0 0, .int .i64 11, .int .i64 x102002_1]) ?_ 2 _ rfl; (with_reducible repeat (first | refine blk_drewN ?_ _ | refine blk_drew ?_ | refine blk_alloc ?_ _)); refine blk_put (cs := #[.slice none 0 0, .int .i64 x102001_1, .int .i64 x102002_1]) ?_ 1 _ rfl; (with_reducible repeat (first | refine blk_drewN ?_ _ | refine blk_drew ?_ | refine blk_alloc ?_ _)); refine blk_put (cs := #[.slice none 0 0, .int .i64 x102001_1, .int .i64 x102002_1]) ?_ 0 _ rfl; (with_reducible repeat (first | refine blk_drewN ?_ _ | refine blk_drew ?_ | refine blk_alloc ?_ _)); exact BK101.out) Try.underlying30 rfl (by kernel_rfl)) rfl ?_
                                              exact ⟨_, by first | rfl | (simp [errW_none, errW_some] <;> rfl) | (simp only [← hji106]; first | rfl | (simp [errW_none, errW_some] <;> rfl)) | (simp [*, errW_none, errW_some] <;> rfl), by first | exact Kd.R_nil _ _ _ _ _ | exact Kd.N_nil _ _ _ _ _ | exact Kd.V_nil _ _ _ _ _ | exact Kd.Q_nil _ _ _ _ _ | exact Kd.S_nil _ _ _ _ _, by repeat (first | (with_reducible first | exact HB.out | apply below_alloc | apply pw_below_drewN | apply below_drew1 | refine below_set ?_ GE101.out | refine below_set ?_ GE102.out) | exact HB.out)⟩
                                          · rw [if_neg c109] at H
                                            exact absurd H (by simp)
                                        · rw [if_neg c108] at H
                                          exact absurd H (by simp)
                                      · rw [if_neg c107] at H
                                        exact absurd H (by simp)
                            · rw [if_neg c79] at H
                              have c79b0 : ((bt a0 x4_1) == 39) = false := beq_eq_false_iff_ne.mpr c79
                              have c79b1 : ((bt a0 x4_1) != 39) = true := bne_iff_ne.mpr c79
                              simp only [Option.some.injEq, Prod.mk.injEq] at H
                              obtain ⟨rfl, rfl, rfl⟩ := H
                              go_wp2_with (first | ((with_reducible refine gate_callee (f := 20) rfl ?_); refine goesL_ (some 81) rfl rfl Try.func20 (by kernel_rfl) rfl #[.int .u8 (bt a0 x4_1)] rfl (by (try simp only [List.map_toArray, List.map_cons, List.map_nil]); first | done | rfl | (simp only [List.length_drop, List.length_take]; rfl)) ?_; (with_reducible refine (topiaristref01_letter.calls (bt a0 x4_1) false _ A42.out).mono ?_); rintro e w' ⟨rfl, ⟨nd, rfl⟩⟩; refine ⟨_, rfl, ?_⟩; (try (rw [drewN_self wc]; generalize hq_ : World.drewN wc _ = wc; have n0_ : Aside0 (Kd.R k36 36 wc w.heap.size (fun _ => True) u103000 x103000_1) := ⟨by rw [← hq_]; exact (by (with_reducible repeat (first | apply Kd.R_alloc | apply Kd.R_drewN | apply Kd.R_drew)); exact HO_103000.out)⟩; have n1_ : Aside0 (wc.heap[gb101]? = some (.cells #[.slice none 0 0, .int .i64 x102001_1, .int .i64 x102002_1] 30 (0, 0))) := ⟨by rw [← hq_]; exact (by (with_reducible repeat (first | refine blk_drewN ?_ _ | refine blk_drew ?_ | refine blk_alloc ?_ _)); exact BK101.out)⟩; have n2_ : Aside0 (wc.heap[gb102]? = some (.cells #[u103000, .int .i64 0, .int .i64 0] 30 (0, 0))) := ⟨by rw [← hq_]; exact (by (with_reducible repeat (first | refine blk_drewN ?_ _ | refine blk_drew ?_ | refine blk_alloc ?_ _)); exact BK102.out)⟩; have n3_ : Aside0 (Below w.heap.size w wc) := ⟨by rw [← hq_]; exact (by repeat (first | (with_reducible first | exact HB.out | apply below_alloc | apply pw_below_drewN | apply below_drew1 | refine below_set ?_ GE101.out | refine below_set ?_ GE102.out) | exact HB.out))⟩; clear HO_103000 BK101 BK102 HB hq_; have HO_103000 := n0_; have BK101 := n1_; have BK102 := n2_; have HB := n3_; clear n0_ n1_ n2_ n3_)); have hnb122 := NB101_102.out; have hnc122 := NB102_101.out; have hcz123_0 : wc.cell? ⟨gb101, 0, none⟩ = some (.slice none 0 0) := (blk_cell BK101.out 0).trans rfl; have hcz123_1 : wc.cell? ⟨gb101, 1, none⟩ = some (.int .i64 x102001_1) := (blk_cell BK101.out 1).trans rfl; have hcz123_2 : wc.cell? ⟨gb101, 2, none⟩ = some (.int .i64 x102002_1) := (blk_cell BK101.out 2).trans rfl; have hfz123_0 := blk_frozen BK101.out 0; have hfz123_1 := blk_frozen BK101.out 1; have hfz123_2 := blk_frozen BK101.out 2))
                              refine bodyPost_ret (results_cell_row rfl _ _ gb101 30 #[.slice none 0 0, .int .i64 11, .int .i64 x4_1] (0, 0) _ rfl (by (with_reducible repeat (first | refine blk_drewN ?_ _ | refine blk_drew ?_ | refine blk_alloc ?_ _)); refine blk_put (cs := #[.slice none 0 0, .int .i64 11, .int .i64 x102002_1]) ?_ 2 _ rfl; (with_reducible repeat (first | refine blk_drewN ?_ _ | refine blk_drew ?_ | refine blk_alloc ?_ _)); refine blk_put (cs := #[.slice none 0 0, .int .i64 x102001_1, .int .i64 x102002_1]) ?_ 1 _ rfl; (with_reducible repeat (first | refine blk_drewN ?_ _ | refine blk_drew ?_ | refine blk_alloc ?_ _)); refine blk_put (cs := #[.slice none 0 0, .int .i64 x102001_1, .int .i64 x102002_1]) ?_ 0 _ rfl; (with_reducible repeat (first | refine blk_drewN ?_ _ | refine blk_drew ?_ | refine blk_alloc ?_ _)); exact BK101.out) Try.underlying30 rfl (by kernel_rfl)) rfl ?_
                              exact ⟨_, by first | rfl | (simp [errW_none, errW_some] <;> rfl) | (simp [*, errW_none, errW_some] <;> rfl), by first | exact Kd.R_nil _ _ _ _ _ | exact Kd.N_nil _ _ _ _ _ | exact Kd.V_nil _ _ _ _ _ | exact Kd.Q_nil _ _ _ _ _ | exact Kd.S_nil _ _ _ _ _, by repeat (first | (with_reducible first | exact HB.out | apply below_alloc | apply pw_below_drewN | apply below_drew1 | refine below_set ?_ GE101.out | refine below_set ?_ GE102.out) | exact HB.out)⟩
          · rw [if_neg c10] at H
            exact absurd H (by simp)
        · rw [if_neg c9] at H
          have c9b0 : decide (x4_1 < (a0.size : Int)) = false := decide_eq_false c9
          clear c9
          simp only [Option.some.injEq, Prod.mk.injEq] at H
          obtain ⟨rfl, rfl, rfl⟩ := H
          have hnb124 := NB102_101.out
          have hnc124 := NB101_102.out
          have hcz125_0 : wr.cell? ⟨gb102, 0, none⟩ = some (u103000) := (blk_cell BK102.out 0).trans rfl
          have hcz125_1 : wr.cell? ⟨gb102, 1, none⟩ = some (.int .i64 0) := (blk_cell BK102.out 1).trans rfl
          have hcz125_2 : wr.cell? ⟨gb102, 2, none⟩ = some (.int .i64 0) := (blk_cell BK102.out 2).trans rfl
          have hfz125_0 := blk_frozen BK102.out 0
          have hfz125_1 := blk_frozen BK102.out 1
          have hfz125_2 := blk_frozen BK102.out 2
          obtain ⟨Ao126, co126, eo126⟩ := Kd.R_slice HO_103000.out
          subst eo126
          have hcz127_0 : wr.cell? ⟨gb101, 0, none⟩ = some (.slice none 0 0) := (blk_cell BK101.out 0).trans rfl
          have hcz127_1 : wr.cell? ⟨gb101, 1, none⟩ = some (.int .i64 x102001_1) := (blk_cell BK101.out 1).trans rfl
          have hcz127_2 : wr.cell? ⟨gb101, 2, none⟩ = some (.int .i64 x102002_1) := (blk_cell BK101.out 2).trans rfl
          have hfz127_0 := blk_frozen BK101.out 0
          have hfz127_1 := blk_frozen BK101.out 1
          have hfz127_2 := blk_frozen BK101.out 2
          go_wp2
          refine bodyPost_ret (results_cell_row rfl _ _ gb101 30 #[.slice Ao126 x103000_1.length co126, .int .i64 0, .int .i64 0] (0, 0) _ rfl (by (with_reducible repeat (first | refine blk_drewN ?_ _ | refine blk_drew ?_ | refine blk_alloc ?_ _)); refine blk_put (cs := #[.slice Ao126 x103000_1.length co126, .int .i64 0, .int .i64 x102002_1]) ?_ 2 _ rfl; (with_reducible repeat (first | refine blk_drewN ?_ _ | refine blk_drew ?_ | refine blk_alloc ?_ _)); refine blk_put (cs := #[.slice Ao126 x103000_1.length co126, .int .i64 x102001_1, .int .i64 x102002_1]) ?_ 1 _ rfl; (with_reducible repeat (first | refine blk_drewN ?_ _ | refine blk_drew ?_ | refine blk_alloc ?_ _)); refine blk_put (cs := #[.slice none 0 0, .int .i64 x102001_1, .int .i64 x102002_1]) ?_ 0 _ rfl; (with_reducible repeat (first | refine blk_drewN ?_ _ | refine blk_drew ?_ | refine blk_alloc ?_ _)); exact BK101.out) Try.underlying30 rfl (by kernel_rfl)) rfl ?_
          exact ⟨_, by first | rfl | (simp [errW_none, errW_some] <;> rfl) | (simp [*, errW_none, errW_some] <;> rfl), by (with_reducible repeat (first | apply Kd.R_alloc | apply Kd.R_drewN | apply Kd.R_drew)); exact Kd.R_mono (Kd.R_far (p := ⟨gb101, 2, none⟩) (Kd.R_far (p := ⟨gb101, 1, none⟩) (Kd.R_far (p := ⟨gb101, 0, none⟩) (Kd.R_types HO_103000.out BK101.out (by decide)) (fun _ hk => hk.2) (.slice Ao126 x103000_1.length co126)) (fun _ hk => hk.2) (.int .i64 0)) (fun _ hk => hk.2) (.int .i64 0)) (fun _ hk => trivial), by repeat (first | (with_reducible first | exact HB.out | apply below_alloc | apply pw_below_drewN | apply below_drew1 | refine below_set ?_ GE101.out | refine below_set ?_ GE102.out) | exact HB.out)⟩

end Go.Proofs.Ytfbncmcibfkfiaa.P
