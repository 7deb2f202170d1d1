-- Written by this session's own program wip/gen.py; Lean checks it.
import Derived.Test.YtfbncmcibfkfiaaPx0
import Derived.Test.YtfbncmcibfkfiaaPx9
import Derived.Test.YtfbncmcibfkfiaaPx10
namespace Go.Proofs.Ytfbncmcibfkfiaa.P
open Go.RowKit Go.Proofs.YtfbncmcibfkfiaaW.PrintWords Go.Proofs.YtfbncmcibfkfiaaW.PrintLast Go.Proofs.YtfbncmcibfkfiaaW.PrintMore
attribute [local go_sem] max2_int min2_int max_two min_two max_three min_three max_four min_four   -- for this text's walks alone
set_option linter.unusedVariables false
set_option linter.unusedSimpArgs false

theorem one_size (c : UInt8) : (⟨#[c]⟩ : ByteArray).size = 1 := rfl
/-! ### topiaristlaw01_LexPlaces: function 4 -/
mutual
def topiaristlaw01_LexPlaces.l0 : Nat → ByteArray → List (S36) → Int → Int → Option (Bool)
  | 0, _, _, _, _ => none
  | k + 1, x0, x3, x5, x6 => if x6 ≤ (x3.length : Int) then (if x6 < (x3.length : Int) then (if 0 ≤ x6 then (topiaristlaw01_LexPlaces.j1 k x0 x3 x5 x6 ((rd_T36 x3 x6).f2)) else (none)) else (topiaristlaw01_LexPlaces.j1 k x0 x3 x5 x6 (x0.size : Int))) else ((topiaristlaw01_wakes.f).bind fun t109 => (some t109))
def topiaristlaw01_LexPlaces.j1 : Nat → ByteArray → List (S36) → Int → Int → Int → Option (Bool)
  | 0, _, _, _, _, _ => none
  | k + 1, x0, x3, x5, x6, x7 => if x7 < x5 then (topiaristlaw01_LexPlaces.j2 k x0 x3 x5 x6 x7 true) else (topiaristlaw01_LexPlaces.j2 k x0 x3 x5 x6 x7 (decide (x7 > (x0.size : Int))))
def topiaristlaw01_LexPlaces.j2 : Nat → ByteArray → List (S36) → Int → Int → Int → Bool → Option (Bool)
  | 0, _, _, _, _, _, _ => none
  | k + 1, x0, x3, x5, x6, x7, x64 => if x64 = true then (some false) else (topiaristlaw01_LexPlaces.l1 k x0 x3 x5 x6 x7)
def topiaristlaw01_LexPlaces.l1 : Nat → ByteArray → List (S36) → Int → Int → Int → Option (Bool)
  | 0, _, _, _, _, _ => none
  | k + 1, x0, x3, x5, x6, x7 => if x5 < x7 then (if 0 ≤ x5 then (if x5 < (x0.size : Int) then (if (bt x0 x5) = 35 then (topiaristlaw01_LexPlaces.l2 k x0 x3 x5 x6 x7) else (if (bt x0 x5) = 32 then (topiaristlaw01_LexPlaces.l1 k x0 x3 (wrap64 (x5 + 1)) x6 x7) else (if (bt x0 x5) = 9 then (topiaristlaw01_LexPlaces.l1 k x0 x3 (wrap64 (x5 + 1)) x6 x7) else (if (bt x0 x5) = 10 then (topiaristlaw01_LexPlaces.l1 k x0 x3 (wrap64 (x5 + 1)) x6 x7) else (some false))))) else (none)) else (none)) else (if x6 = (x3.length : Int) then ((topiaristlaw01_wakes.f).bind fun t111 => (some t111)) else (if 0 ≤ x6 then (if x6 < (x3.length : Int) then (if ((rd_T36 x3 x6).f0) = 2 then (if 1 + ((rd_T36 x3 x6).f1).size ≤ 9223372036854775807 then (if ((⟨#[39]⟩ : ByteArray) ++ ((rd_T36 x3 x6).f1)).size + 1 ≤ 9223372036854775807 then (if ((((⟨#[39]⟩ : ByteArray) ++ ((rd_T36 x3 x6).f1)) ++ (⟨#[39]⟩ : ByteArray)).size : Int) = 0 then (some false) else (if (wrap64 (x5 + ((((⟨#[39]⟩ : ByteArray) ++ ((rd_T36 x3 x6).f1)) ++ (⟨#[39]⟩ : ByteArray)).size : Int))) > (x0.size : Int) then (some false) else (if 0 ≤ x5 then (if x5 ≤ (wrap64 (x5 + ((((⟨#[39]⟩ : ByteArray) ++ ((rd_T36 x3 x6).f1)) ++ (⟨#[39]⟩ : ByteArray)).size : Int))) then (if (wrap64 (x5 + ((((⟨#[39]⟩ : ByteArray) ++ ((rd_T36 x3 x6).f1)) ++ (⟨#[39]⟩ : ByteArray)).size : Int))) ≤ (x0.size : Int) then (if (x0.extract (x5 : Int).toNat ((wrap64 (x5 + ((((⟨#[39]⟩ : ByteArray) ++ ((rd_T36 x3 x6).f1)) ++ (⟨#[39]⟩ : ByteArray)).size : Int))) : Int).toNat).toList = (((⟨#[39]⟩ : ByteArray) ++ ((rd_T36 x3 x6).f1)) ++ (⟨#[39]⟩ : ByteArray)).toList then (topiaristlaw01_LexPlaces.l0 k x0 x3 (wrap64 (x5 + ((((⟨#[39]⟩ : ByteArray) ++ ((rd_T36 x3 x6).f1)) ++ (⟨#[39]⟩ : ByteArray)).size : Int))) (wrap64 (x6 + 1))) else (some false)) else (none)) else (none)) else (none)))) else (none)) else (none)) else (if (((rd_T36 x3 x6).f1).size : Int) = 0 then (some false) else (if (wrap64 (x5 + (((rd_T36 x3 x6).f1).size : Int))) > (x0.size : Int) then (some false) else (if 0 ≤ x5 then (if x5 ≤ (wrap64 (x5 + (((rd_T36 x3 x6).f1).size : Int))) then (if (wrap64 (x5 + (((rd_T36 x3 x6).f1).size : Int))) ≤ (x0.size : Int) then (if (x0.extract (x5 : Int).toNat ((wrap64 (x5 + (((rd_T36 x3 x6).f1).size : Int))) : Int).toNat).toList = ((rd_T36 x3 x6).f1).toList then (topiaristlaw01_LexPlaces.l0 k x0 x3 (wrap64 (x5 + (((rd_T36 x3 x6).f1).size : Int))) (wrap64 (x6 + 1))) else (some false)) else (none)) else (none)) else (none))))) else (none)) else (none)))
def topiaristlaw01_LexPlaces.l2 : Nat → ByteArray → List (S36) → Int → Int → Int → Option (Bool)
  | 0, _, _, _, _, _ => none
  | k + 1, x0, x3, x5, x6, x7 => if x5 < x7 then (if 0 ≤ x5 then (if x5 < (x0.size : Int) then (if (bt x0 x5) = 10 then (topiaristlaw01_LexPlaces.l1 k x0 x3 x5 x6 x7) else (topiaristlaw01_LexPlaces.l2 k x0 x3 (wrap64 (x5 + 1)) x6 x7)) else (none)) else (none)) else (topiaristlaw01_LexPlaces.l1 k x0 x3 x5 x6 x7)
end
def topiaristlaw01_LexPlaces.f (k : Nat) (a0 : ByteArray) : Option (Bool) := if (a0.size : Int) > 2000 then ((topiaristlaw01_wakes.f).bind fun t101 => (some t101)) else ((lex_Tokens.f a0).bind fun bt102 => (if bt102.2.1 = 0 then (topiaristlaw01_LexPlaces.l0 k a0 bt102.1 0 0) else (if (bt102.1.length : Int) = 0 then (if bt102.2.2 ≥ 0 then (if bt102.2.2 < (a0.size : Int) then ((topiaristlaw01_wakes.f).bind fun t108 => (some t108)) else (some false)) else (some false)) else (some false))))
theorem topiaristlaw01_LexPlaces.mono_l : ∀ k, (∀ y0 y1 y2 y3, LeO (topiaristlaw01_LexPlaces.l0 k y0 y1 y2 y3) (topiaristlaw01_LexPlaces.l0 (k + 1) y0 y1 y2 y3)) ∧ (∀ y0 y1 y2 y3 y4, LeO (topiaristlaw01_LexPlaces.j1 k y0 y1 y2 y3 y4) (topiaristlaw01_LexPlaces.j1 (k + 1) y0 y1 y2 y3 y4)) ∧ (∀ y0 y1 y2 y3 y4 y5, LeO (topiaristlaw01_LexPlaces.j2 k y0 y1 y2 y3 y4 y5) (topiaristlaw01_LexPlaces.j2 (k + 1) y0 y1 y2 y3 y4 y5)) ∧ (∀ y0 y1 y2 y3 y4, LeO (topiaristlaw01_LexPlaces.l1 k y0 y1 y2 y3 y4) (topiaristlaw01_LexPlaces.l1 (k + 1) y0 y1 y2 y3 y4)) ∧ (∀ y0 y1 y2 y3 y4, LeO (topiaristlaw01_LexPlaces.l2 k y0 y1 y2 y3 y4) (topiaristlaw01_LexPlaces.l2 (k + 1) y0 y1 y2 y3 y4))
  | 0 => ⟨fun _ _ _ _ r h => by simp [topiaristlaw01_LexPlaces.l0] at h, fun _ _ _ _ _ r h => by simp [topiaristlaw01_LexPlaces.j1] at h, fun _ _ _ _ _ _ r h => by simp [topiaristlaw01_LexPlaces.j2] at h, fun _ _ _ _ _ r h => by simp [topiaristlaw01_LexPlaces.l1] at h, fun _ _ _ _ _ r h => by simp [topiaristlaw01_LexPlaces.l2] at h⟩
  | k + 1 => by
    obtain ⟨ih0, ih1, ih2, ih3, ih4⟩ := topiaristlaw01_LexPlaces.mono_l k
    refine ⟨?_, ?_, ?_, ?_, ?_⟩
    · intro y0 y1 y2 y3
      unfold topiaristlaw01_LexPlaces.l0
      repeat' first
      | (with_reducible exact ih0 _ _ _ _)
      | (with_reducible exact ih1 _ _ _ _ _)
      | (with_reducible exact ih2 _ _ _ _ _ _)
      | (with_reducible exact ih3 _ _ _ _ _)
      | (with_reducible exact ih4 _ _ _ _ _)
      | (with_reducible exact LeO.refl _)
      | (with_reducible exact LeO.none _)
      | (with_reducible refine LeO.ite ?_ ?_)
      | (with_reducible refine LeO.bind ?_ (fun _ => ?_))
      | exact ih0 _ _ _ _
      | exact ih1 _ _ _ _ _
      | exact ih2 _ _ _ _ _ _
      | exact ih3 _ _ _ _ _
      | exact ih4 _ _ _ _ _
      | exact LeO.none _
      | refine LeO.ite ?_ ?_
      | refine LeO.bind ?_ (fun _ => ?_)
    · intro y0 y1 y2 y3 y4
      unfold topiaristlaw01_LexPlaces.j1
      repeat' first
      | (with_reducible exact ih0 _ _ _ _)
      | (with_reducible exact ih1 _ _ _ _ _)
      | (with_reducible exact ih2 _ _ _ _ _ _)
      | (with_reducible exact ih3 _ _ _ _ _)
      | (with_reducible exact ih4 _ _ _ _ _)
      | (with_reducible exact LeO.refl _)
      | (with_reducible exact LeO.none _)
      | (with_reducible refine LeO.ite ?_ ?_)
      | (with_reducible refine LeO.bind ?_ (fun _ => ?_))
      | exact ih0 _ _ _ _
      | exact ih1 _ _ _ _ _
      | exact ih2 _ _ _ _ _ _
      | exact ih3 _ _ _ _ _
      | exact ih4 _ _ _ _ _
      | exact LeO.none _
      | refine LeO.ite ?_ ?_
      | refine LeO.bind ?_ (fun _ => ?_)
    · intro y0 y1 y2 y3 y4 y5
      unfold topiaristlaw01_LexPlaces.j2
      repeat' first
      | (with_reducible exact ih0 _ _ _ _)
      | (with_reducible exact ih1 _ _ _ _ _)
      | (with_reducible exact ih2 _ _ _ _ _ _)
      | (with_reducible exact ih3 _ _ _ _ _)
      | (with_reducible exact ih4 _ _ _ _ _)
      | (with_reducible exact LeO.refl _)
      | (with_reducible exact LeO.none _)
      | (with_reducible refine LeO.ite ?_ ?_)
      | (with_reducible refine LeO.bind ?_ (fun _ => ?_))
      | exact ih0 _ _ _ _
      | exact ih1 _ _ _ _ _
      | exact ih2 _ _ _ _ _ _
      | exact ih3 _ _ _ _ _
      | exact ih4 _ _ _ _ _
      | exact LeO.none _
      | refine LeO.ite ?_ ?_
      | refine LeO.bind ?_ (fun _ => ?_)
    · intro y0 y1 y2 y3 y4
      unfold topiaristlaw01_LexPlaces.l1
      repeat' first
      | (with_reducible exact ih0 _ _ _ _)
      | (with_reducible exact ih1 _ _ _ _ _)
      | (with_reducible exact ih2 _ _ _ _ _ _)
      | (with_reducible exact ih3 _ _ _ _ _)
      | (with_reducible exact ih4 _ _ _ _ _)
      | (with_reducible exact LeO.refl _)
      | (with_reducible exact LeO.none _)
      | (with_reducible refine LeO.ite ?_ ?_)
      | (with_reducible refine LeO.bind ?_ (fun _ => ?_))
      | exact ih0 _ _ _ _
      | exact ih1 _ _ _ _ _
      | exact ih2 _ _ _ _ _ _
      | exact ih3 _ _ _ _ _
      | exact ih4 _ _ _ _ _
      | exact LeO.none _
      | refine LeO.ite ?_ ?_
      | refine LeO.bind ?_ (fun _ => ?_)
    · intro y0 y1 y2 y3 y4
      unfold topiaristlaw01_LexPlaces.l2
      repeat' first
      | (with_reducible exact ih0 _ _ _ _)
      | (with_reducible exact ih1 _ _ _ _ _)
      | (with_reducible exact ih2 _ _ _ _ _ _)
      | (with_reducible exact ih3 _ _ _ _ _)
      | (with_reducible exact ih4 _ _ _ _ _)
      | (with_reducible exact LeO.refl _)
      | (with_reducible exact LeO.none _)
      | (with_reducible refine LeO.ite ?_ ?_)
      | (with_reducible refine LeO.bind ?_ (fun _ => ?_))
      | exact ih0 _ _ _ _
      | exact ih1 _ _ _ _ _
      | exact ih2 _ _ _ _ _ _
      | exact ih3 _ _ _ _ _
      | exact ih4 _ _ _ _ _
      | exact LeO.none _
      | refine LeO.ite ?_ ?_
      | refine LeO.bind ?_ (fun _ => ?_)
theorem topiaristlaw01_LexPlaces.mono : ∀ a0 k, LeO (topiaristlaw01_LexPlaces.f k a0) (topiaristlaw01_LexPlaces.f (k + 1) a0) := by
  intro a0 k
  obtain ⟨ih0, ih1, ih2, ih3, ih4⟩ := topiaristlaw01_LexPlaces.mono_l k
  unfold topiaristlaw01_LexPlaces.f
  repeat' first
      | (with_reducible exact ih0 _ _ _ _)
      | (with_reducible exact ih1 _ _ _ _ _)
      | (with_reducible exact ih2 _ _ _ _ _ _)
      | (with_reducible exact ih3 _ _ _ _ _)
      | (with_reducible exact ih4 _ _ _ _ _)
      | (with_reducible exact LeO.refl _)
      | (with_reducible exact LeO.none _)
      | (with_reducible refine LeO.ite ?_ ?_)
      | (with_reducible refine LeO.bind ?_ (fun _ => ?_))
      | exact ih0 _ _ _ _
      | exact ih1 _ _ _ _ _
      | exact ih2 _ _ _ _ _ _
      | exact ih3 _ _ _ _ _
      | exact ih4 _ _ _ _ _
      | exact LeO.none _
      | refine LeO.ite ?_ ?_
      | refine LeO.bind ?_ (fun _ => ?_)
set_option maxHeartbeats 8000000 in
set_option maxRecDepth 100000 in
theorem topiaristlaw01_LexPlaces.calls (k : Nat) (a0 : ByteArray) (r : Bool) (w : World) (h : topiaristlaw01_LexPlaces.f k a0 = some r) :
    Calls Try.prog 4 #[.string a0] w fun e w' => e = .returned (.bool r) ∧ Below w.heap.size w w' := by
  have hu26 := Try.underlying26
  have HB := Aside0.mk (Below.refl w.heap.size w)
  have H : (if (a0.size : Int) > 2000 then ((topiaristlaw01_wakes.f).bind fun t101 => (some t101)) else ((lex_Tokens.f a0).bind fun bt102 => (if bt102.2.1 = 0 then (topiaristlaw01_LexPlaces.l0 k a0 bt102.1 0 0) else (if (bt102.1.length : Int) = 0 then (if bt102.2.2 ≥ 0 then (if bt102.2.2 < (a0.size : Int) then ((topiaristlaw01_wakes.f).bind fun t108 => (some t108)) else (some false)) else (some false)) else (some false))))) = some r := h
  clear h
  by_cases c2 : (a0.size : Int) > 2000
  · rw [if_pos c2] at H
    have c2b0 : decide (2000 < (a0.size : Int)) = true := decide_eq_true c2
    have c2b1 : decide (2000 < a0.size) = true := decide_eq_true (by omega)
    clear c2
    replace H := Option.bind_eq_some_iff.mp H
    obtain ⟨t101, A30, H⟩ := H
    replace H : (some t101) = some r := H
    have A3 := Aside0.mk A30
    clear A30
    obtain rfl := Option.some.inj H
    go_enter Try.func4, Try.ntmps4
    go_wp2_with (first | ((with_reducible refine gate_callee (f := 9) rfl ?_); refine goesL_ (some 12) rfl rfl Try.func9 (by kernel_rfl) rfl #[] rfl (by (try simp only [List.map_toArray, List.map_cons, List.map_nil]); first | done | rfl | (simp only [List.length_drop, List.length_take]; rfl)) ?_; (with_reducible refine (topiaristlaw01_wakes.calls  t101 _ A3.out).mono ?_); rintro e w4 ⟨rfl, hb⟩; refine ⟨_, rfl, ?_⟩; have n0_ := Aside0.mk (below_step (by repeat (first | (with_reducible first | exact HB.out | apply below_alloc | apply pw_below_drewN | apply below_drew1) | exact HB.out)) hb); clear HB; have HB := n0_; clear n0_; (try clear hb); (try clear hb2); (try clear hk); (try clear hi)))
    go_ret
    exact ⟨by first | rfl | (simp [errW_none, errW_some] <;> rfl) | (simp [*, errW_none, errW_some] <;> rfl), by repeat (first | (with_reducible first | exact HB.out | apply below_alloc | apply pw_below_drewN | apply below_drew1) | exact HB.out)⟩
  · rw [if_neg c2] at H
    have c2b0 : decide (2000 < (a0.size : Int)) = false := decide_eq_false c2
    have c2b1 : decide (2000 < a0.size) = false := decide_eq_false (by omega)
    clear c2
    replace H := Option.bind_eq_some_iff.mp H
    obtain ⟨⟨t102, t105, t106⟩, A50, H⟩ := H
    replace H : (if t105 = 0 then (topiaristlaw01_LexPlaces.l0 k a0 t102 0 0) else (if (t102.length : Int) = 0 then (if t106 ≥ 0 then (if t106 < (a0.size : Int) then ((topiaristlaw01_wakes.f).bind fun t108 => (some t108)) else (some false)) else (some false)) else (some false))) = some r := H
    have A5 := Aside0.mk A50
    clear A50
    by_cases c6 : t105 = 0
    · rw [if_pos c6] at H
      have c6b0 : (t105 == 0) = true := beq_iff_eq.mpr c6
      have c6b1 : (t105 != 0) = false := bne_eq_false_iff_eq.mpr c6
      clear c6
      have H' := Aside0.mk H
      clear H
      go_enter Try.func4, Try.ntmps4
      go_wp2_with (first | ((with_reducible refine gate_callee (f := 10) rfl ?_); refine goesL_ (some 15) rfl rfl Try.func10 (by kernel_rfl) rfl #[.string a0] rfl (by (try simp only [List.map_toArray, List.map_cons, List.map_nil]); first | done | rfl | (simp only [List.length_drop, List.length_take]; rfl)) ?_; (with_reducible refine (lex_Tokens.calls a0 t102 t105 t106 _ A5.out).mono ?_); rintro e w7 ⟨v103, rfl, ho0, hb⟩; refine ⟨_, rfl, ?_⟩; have n0_ := Aside0.mk (Kd.R_lower ho0 (below_size (by repeat (first | (with_reducible first | exact HB.out | apply below_alloc | apply pw_below_drewN | apply below_drew1) | exact HB.out)))); have n1_ := Aside0.mk (below_step (by repeat (first | (with_reducible first | exact HB.out | apply below_alloc | apply pw_below_drewN | apply below_drew1) | exact HB.out)) hb); clear HB; have HO104 := n0_; have HB := n1_; clear n0_ n1_; (try clear hb); (try clear hb2); (try clear hk); (try clear hi); (try clear ho0)) | ((with_reducible refine gate_dst (N := 4) rfl ?_); (try (refine gate_guard (by rfl) ?_; dsimp only)); refine box_event ?hg (N := 4) ?hd (cs := #[.int .i64 0, .int .i64 0]) (t := 26) ?hr ?_; (case hd => rfl); (case hg => rfl); (case hr => first | (go_simp; done) | (go_simp; rfl)); intro gb107 hg w8 hbox hb; have n0_ := Aside0.mk (Kd.R_below (by (with_reducible repeat (first | apply Kd.R_alloc | apply Kd.R_drewN | apply Kd.R_drew)); exact HO104.out) hb); have n1_ := Aside0.mk (below_step (by repeat (first | (with_reducible first | exact HB.out | apply below_alloc | apply pw_below_drewN | apply below_drew1) | exact HB.out)) hb); have n2_ := Aside0.mk (hbox); have n3_ := Aside0.mk ((by rw [hg]; exact (below_size (by repeat (first | (with_reducible first | exact HB.out | apply below_alloc | apply pw_below_drewN | apply below_drew1) | exact HB.out))) : w.heap.size ≤ gb107)); have n4_ := Aside0.mk ((by rw [hg]; exact (below_size (by repeat (first | (with_reducible first | exact HB.out | apply below_alloc | apply pw_below_drewN | apply below_drew1) | exact HB.out))) : w.heap.size ≤ gb107)); clear HO104; clear HB; have HO104 := n0_; have HB := n1_; have BK107 := n2_; have GW107 := n3_; have GE107 := n4_; clear n0_ n1_ n2_ n3_ n4_; clear hb hbox hg; have hcz9_0 : w8.cell? ⟨gb107, 0, none⟩ = some (.int .i64 0) := (blk_cell BK107.out 0).trans rfl; have hcz9_1 : w8.cell? ⟨gb107, 1, none⟩ = some (.int .i64 0) := (blk_cell BK107.out 1).trans rfl; have hfz9_0 := blk_frozen BK107.out 0; have hfz9_1 := blk_frozen BK107.out 1))
      go_loopg [5, 6] k (fun kq v5 v6 w' => ∃ (x5_1 : Int) (x6_1 : Int), v5 = .int .i64 x5_1 ∧ v6 = .int .i64 x6_1 ∧ Aside0 (topiaristlaw01_LexPlaces.l0 kq a0 t102 x5_1 x6_1 = some r) ∧ Aside0 (kq ≤ k) ∧ Aside0 (Kd.R k36 36 w' w.heap.size (fun _ => True) v103 t102) ∧ Aside0 (w'.heap[gb107]? = some (.cells #[.int .i64 t105, .int .i64 t106] 26 (0, 0))) ∧ Aside0 (Below w.heap.size w w'))
      case atStart => exact ⟨(0), (0), (by first | rfl | (simp; done) | (simp [*]; done) | (simp [*, one_size]; done)), (by first | rfl | (simp; done) | (simp [*]; done) | (simp [*, one_size]; done)), H', ⟨Nat.le_refl _⟩, ⟨by (with_reducible repeat (first | apply Kd.R_alloc | apply Kd.R_drewN | apply Kd.R_drew)); exact Kd.R_mono (Kd.R_far (p := ⟨gb107, 1, none⟩) (Kd.R_far (p := ⟨gb107, 0, none⟩) (Kd.R_types HO104.out BK107.out (by decide)) (fun _ hk => hk.2) (.int .i64 t105)) (fun _ hk => hk.2) (.int .i64 t106)) (fun _ hk => trivial)⟩, ⟨by (with_reducible repeat (first | refine blk_drewN ?_ _ | refine blk_drew ?_ | refine blk_alloc ?_ _)); refine blk_put (cs := #[.int .i64 t105, .int .i64 0]) ?_ 1 _ rfl; (with_reducible repeat (first | refine blk_drewN ?_ _ | refine blk_drew ?_ | refine blk_alloc ?_ _)); refine blk_put (cs := #[.int .i64 0, .int .i64 0]) ?_ 0 _ rfl; (with_reducible repeat (first | refine blk_drewN ?_ _ | refine blk_drew ?_ | refine blk_alloc ?_ _)); exact BK107.out⟩, ⟨by repeat (first | (with_reducible first | exact HB.out | apply below_alloc | apply pw_below_drewN | apply below_drew1 | refine below_set ?_ GE107.out) | exact HB.out)⟩⟩
      case round =>
        clear H'
        try clear c1
        try clear c2
        try clear c2b0
        try clear c2b1
        try clear p2
        try clear c4
        try clear c6
        try clear c6b0
        try clear c6b1
        try clear c9
        try clear hcz9_0
        try clear hcz9_1
        try clear hfz9_0
        try clear hfz9_1
        obtain ⟨x5_1, x6_1, rfl, rfl, HA, HK1, HO_3, BK107, HB⟩ := hrel
        cases gk with
        | zero => exact absurd HA.out (by simp [topiaristlaw01_LexPlaces.l0])
        | succ k1 =>
          have H := HA.out
          clear HA
          simp only [topiaristlaw01_LexPlaces.l0] at H
          by_cases c10 : x6_1 ≤ (t102.length : Int)
          · rw [if_pos c10] at H
            have c10b0 : decide (x6_1 ≤ (t102.length : Int)) = true := decide_eq_true c10
            clear c10
            have HC11 := Aside0.mk H
            clear H
            obtain ⟨Ao12, co12, eo12⟩ := Kd.R_slice HO_3.out
            subst eo12
            go_upto_if 50 with (fail)
            go_cut [7] (fun v7 wc => ∃ (kq : Nat) (x7_10 : Int), v7 = .int .i64 x7_10 ∧ Aside0 (topiaristlaw01_LexPlaces.j1 kq a0 t102 x5_1 x6_1 x7_10 = some r) ∧ Aside0 (kq ≤ k1) ∧ Aside0 (Kd.R k36 36 wc w.heap.size (fun _ => True) (.slice Ao12 t102.length co12) t102) ∧ Aside0 (wc.heap[gb107]? = some (.cells #[.int .i64 t105, .int .i64 t106] 26 (0, 0))) ∧ Aside0 (Below w.heap.size w wc))
            case first =>
              have H := HC11.out
              clear HC11
              by_cases c13 : x6_1 < (t102.length : Int)
              · rw [if_pos c13] at H
                have c13b0 : decide (x6_1 < (t102.length : Int)) = true := decide_eq_true c13
                clear c13
                (first | rw [c13b0] | (simp only [i64_w, i32_w]; rw [c13b0]) | skip)
                by_cases c14 : 0 ≤ x6_1
                · rw [if_pos c14] at H
                  have c14b0 : decide (0 ≤ x6_1) = true := decide_eq_true c14
                  clear c14
                  have H' := Aside0.mk H
                  clear H
                  have p110 : 0 ≤ (x6_1 : Int) := of_decide_eq_true (by first | (with_reducible assumption) | assumption)
                  have q110 : x6_1 < (t102.length : Int) := of_decide_eq_true (by first | (with_reducible assumption) | assumption)
                  obtain ⟨ad110, e110, hx110_0, hx110_1, hx110_2⟩ := at_T36 (Kd.R_reads' HO_3.out).2.2 x6_1 p110 q110
                  cases e110
                  replace p110 := eq_true p110
                  replace q110 := eq_true q110
                  go_wp2
                  go_meet
                  case rel => exact ⟨_, ((rd_T36 t102 x6_1).f2), (by first | rfl | (simp; done) | (simp [*]; done) | (simp [*, one_size]; done)), H', ⟨by have := HK1.out; first | omega | exact Nat.le_refl _⟩, ⟨by (with_reducible repeat (first | apply Kd.R_alloc | apply Kd.R_drewN | apply Kd.R_drew)); exact HO_3.out⟩, ⟨by (with_reducible repeat (first | refine blk_drewN ?_ _ | refine blk_drew ?_ | refine blk_alloc ?_ _)); exact BK107.out⟩, ⟨by repeat (first | (with_reducible first | exact HB.out | apply below_alloc | apply pw_below_drewN | apply below_drew1 | refine below_set ?_ GE107.out) | exact HB.out)⟩⟩
                · rw [if_neg c14] at H
                  exact absurd H (by simp)
              · rw [if_neg c13] at H
                have c13b0 : decide (x6_1 < (t102.length : Int)) = false := decide_eq_false c13
                clear c13
                (first | rw [c13b0] | (simp only [i64_w, i32_w]; rw [c13b0]) | skip)
                have H' := Aside0.mk H
                clear H
                go_wp2
                go_meet
                case rel => exact ⟨_, ((a0.size : Int)), (by first | rfl | (simp; done) | (simp [*]; done) | (simp [*, one_size]; done)), H', ⟨by have := HK1.out; first | omega | exact Nat.le_refl _⟩, ⟨by (with_reducible repeat (first | apply Kd.R_alloc | apply Kd.R_drewN | apply Kd.R_drew)); exact HO_3.out⟩, ⟨by (with_reducible repeat (first | refine blk_drewN ?_ _ | refine blk_drew ?_ | refine blk_alloc ?_ _)); exact BK107.out⟩, ⟨by repeat (first | (with_reducible first | exact HB.out | apply below_alloc | apply pw_below_drewN | apply below_drew1 | refine below_set ?_ GE107.out) | exact HB.out)⟩⟩
            case rest =>
              clear HC11
              try clear c1
              try clear p1
              try clear q1
              try clear hx1
              try clear c2
              try clear c2b0
              try clear c2b1
              try clear p2
              try clear c4
              try clear c6
              try clear c6b0
              try clear c6b1
              try clear c9
              try clear c10
              try clear c10b0
              try clear p11
              try clear q11
              try clear hx11
              try clear c13
              try clear c13b0
              try clear c14
              try clear c14b0
              try clear hcz9_0
              try clear hcz9_1
              try clear hfz9_0
              try clear hfz9_1
              try clear hx110_0
              try clear hx110_1
              try clear hx110_2
              try clear p110
              try clear p2
              try clear q110
              obtain ⟨kq, x7_10, rfl, HA, HJ10, HO_3, BK107, HB⟩ := hcut
              cases kq with
              | zero => exact absurd HA.out (by simp [topiaristlaw01_LexPlaces.j1])
              | succ kj10 =>
                have H := HA.out
                clear HA
                simp only [topiaristlaw01_LexPlaces.j1] at H
                have HC15 := Aside0.mk H
                clear H
                go_upto_region 13 with (fail)
                go_cut [64] (fun v64 wc => ∃ (kq : Nat) (x64_14 : Bool), v64 = .bool x64_14 ∧ Aside0 (topiaristlaw01_LexPlaces.j2 kq a0 t102 x5_1 x6_1 x7_10 x64_14 = some r) ∧ Aside0 (kq ≤ kj10) ∧ Aside0 (Kd.R k36 36 wc w.heap.size (fun _ => True) (.slice Ao12 t102.length co12) t102) ∧ Aside0 (wc.heap[gb107]? = some (.cells #[.int .i64 t105, .int .i64 t106] 26 (0, 0))) ∧ Aside0 (Below w.heap.size w wc))
                case first =>
                  have H := HC15.out
                  clear HC15
                  by_cases c16 : x7_10 < x5_1
                  · rw [if_pos c16] at H
                    have c16b0 : decide (x7_10 < x5_1) = true := decide_eq_true c16
                    clear c16
                    (first | rw [c16b0] | (simp only [i64_w, i32_w]; rw [c16b0]) | skip)
                    have H' := Aside0.mk H
                    clear H
                    go_wp2
                    go_meet
                    case rel => exact ⟨_, (true), (by first | rfl | (simp; done) | (simp [*]; done) | (simp [*, one_size]; done)), H', ⟨by have := HK1.out; have := HJ10.out; first | omega | exact Nat.le_refl _⟩, ⟨by (with_reducible repeat (first | apply Kd.R_alloc | apply Kd.R_drewN | apply Kd.R_drew)); exact HO_3.out⟩, ⟨by (with_reducible repeat (first | refine blk_drewN ?_ _ | refine blk_drew ?_ | refine blk_alloc ?_ _)); exact BK107.out⟩, ⟨by repeat (first | (with_reducible first | exact HB.out | apply below_alloc | apply pw_below_drewN | apply below_drew1 | refine below_set ?_ GE107.out) | exact HB.out)⟩⟩
                  · rw [if_neg c16] at H
                    have c16b0 : decide (x7_10 < x5_1) = false := decide_eq_false c16
                    clear c16
                    (first | rw [c16b0] | (simp only [i64_w, i32_w]; rw [c16b0]) | skip)
                    have H' := Aside0.mk H
                    clear H
                    go_wp2
                    go_meet
                    case rel => exact ⟨_, (decide (x7_10 > (a0.size : Int))), (by first | rfl | (simp; done) | (simp [*]; done) | (simp [*, one_size]; done)), H', ⟨by have := HK1.out; have := HJ10.out; first | omega | exact Nat.le_refl _⟩, ⟨by (with_reducible repeat (first | apply Kd.R_alloc | apply Kd.R_drewN | apply Kd.R_drew)); exact HO_3.out⟩, ⟨by (with_reducible repeat (first | refine blk_drewN ?_ _ | refine blk_drew ?_ | refine blk_alloc ?_ _)); exact BK107.out⟩, ⟨by repeat (first | (with_reducible first | exact HB.out | apply below_alloc | apply pw_below_drewN | apply below_drew1 | refine below_set ?_ GE107.out) | exact HB.out)⟩⟩
                case rest =>
                  clear HC15
                  try clear c1
                  try clear p1
                  try clear q1
                  try clear hx1
                  try clear c2
                  try clear c2b0
                  try clear c2b1
                  try clear p2
                  try clear c4
                  try clear c6
                  try clear c6b0
                  try clear c6b1
                  try clear c9
                  try clear c10
                  try clear c10b0
                  try clear p11
                  try clear q11
                  try clear hx11
                  try clear c13
                  try clear c13b0
                  try clear c14
                  try clear c14b0
                  try clear c16
                  try clear c16b0
                  try clear hcz9_0
                  try clear hcz9_1
                  try clear hfz9_0
                  try clear hfz9_1
                  try clear hx110_0
                  try clear hx110_1
                  try clear hx110_2
                  try clear p1
                  try clear p11
                  try clear p110
                  try clear p2
                  try clear q1
                  try clear q11
                  try clear q110
                  obtain ⟨kq, x64_14, rfl, HA, HJ14, HO_3, BK107, HB⟩ := hcut
                  cases kq with
                  | zero => exact absurd HA.out (by simp [topiaristlaw01_LexPlaces.j2])
                  | succ kj14 =>
                    have H := HA.out
                    clear HA
                    simp only [topiaristlaw01_LexPlaces.j2] at H
                    by_cases c17 : x64_14 = true
                    · subst c17
                      have H1 : (some false) = some r := by rw [if_pos rfl] at H; exact H
                      clear H
                      have H := H1
                      clear H1
                      obtain rfl := Option.some.inj H
                      go_wp2
                      go_ret
                      exact ⟨by first | rfl | (simp [errW_none, errW_some] <;> rfl) | (simp [*, errW_none, errW_some] <;> rfl), by repeat (first | (with_reducible first | exact HB.out | apply below_alloc | apply pw_below_drewN | apply below_drew1 | refine below_set ?_ GE107.out) | exact HB.out)⟩
                    · replace c17 := Bool.eq_false_iff.mpr c17
                      subst c17
                      have H1 : (topiaristlaw01_LexPlaces.l1 kj14 a0 t102 x5_1 x6_1 x7_10) = some r := by rw [if_neg (show ¬ (false = true) by decide)] at H; exact H
                      clear H
                      have H := H1
                      clear H1
                      have H' := Aside0.mk H
                      clear H
                      go_wp2
                      go_loopg [5] kj14 (fun kq v5 w' => ∃ (x5_4 : Int), v5 = .int .i64 x5_4 ∧ Aside0 (topiaristlaw01_LexPlaces.l1 kq a0 t102 x5_4 x6_1 x7_10 = some r) ∧ Aside0 (kq ≤ kj14) ∧ Aside0 (Kd.R k36 36 w' w.heap.size (fun _ => True) (.slice Ao12 t102.length co12) t102) ∧ Aside0 (w'.heap[gb107]? = some (.cells #[.int .i64 t105, .int .i64 t106] 26 (0, 0))) ∧ Aside0 (Below w.heap.size w w'))
                      case atStart => exact ⟨(x5_1), (by first | rfl | (simp; done) | (simp [*]; done) | (simp [*, one_size]; done)), H', ⟨Nat.le_refl _⟩, ⟨by (with_reducible repeat (first | apply Kd.R_alloc | apply Kd.R_drewN | apply Kd.R_drew)); exact HO_3.out⟩, ⟨by (with_reducible repeat (first | refine blk_drewN ?_ _ | refine blk_drew ?_ | refine blk_alloc ?_ _)); exact BK107.out⟩, ⟨by repeat (first | (with_reducible first | exact HB.out | apply below_alloc | apply pw_below_drewN | apply below_drew1 | refine below_set ?_ GE107.out) | exact HB.out)⟩⟩
                      case round =>
                        clear H'
                        try clear c1
                        try clear p1
                        try clear q1
                        try clear hx1
                        try clear c2
                        try clear c2b0
                        try clear c2b1
                        try clear p2
                        try clear c4
                        try clear c6
                        try clear c6b0
                        try clear c6b1
                        try clear c9
                        try clear c10
                        try clear c10b0
                        try clear p11
                        try clear q11
                        try clear hx11
                        try clear c13
                        try clear c13b0
                        try clear c14
                        try clear c14b0
                        try clear c16
                        try clear c16b0
                        try clear c17
                        try clear hcz9_0
                        try clear hcz9_1
                        try clear hfz9_0
                        try clear hfz9_1
                        try clear hx110_0
                        try clear hx110_1
                        try clear hx110_2
                        try clear p1
                        try clear p11
                        try clear p110
                        try clear p2
                        try clear q1
                        try clear q11
                        try clear q110
                        obtain ⟨x5_4, rfl, HA, HK4, HO_3, BK107, HB⟩ := hrel
                        cases gk with
                        | zero => exact absurd HA.out (by simp [topiaristlaw01_LexPlaces.l1])
                        | succ k4 =>
                          have H := HA.out
                          clear HA
                          simp only [topiaristlaw01_LexPlaces.l1] at H
                          by_cases c18 : x5_4 < x7_10
                          · rw [if_pos c18] at H
                            have c18b0 : decide (x5_4 < x7_10) = true := decide_eq_true c18
                            clear c18
                            by_cases c19 : 0 ≤ x5_4
                            · rw [if_pos c19] at H
                              have c19b0 : decide (0 ≤ x5_4) = true := decide_eq_true c19
                              clear c19
                              by_cases c20 : x5_4 < (a0.size : Int)
                              · rw [if_pos c20] at H
                                have c20b0 : decide (x5_4 < (a0.size : Int)) = true := decide_eq_true c20
                                clear c20
                                by_cases c22 : (bt a0 x5_4) = 35
                                · rw [if_pos c22] at H
                                  have c22b0 : ((bt a0 x5_4) == 35) = true := beq_iff_eq.mpr c22
                                  have c22b1 : ((bt a0 x5_4) != 35) = false := bne_eq_false_iff_eq.mpr c22
                                  clear c22
                                  have H' := Aside0.mk H
                                  clear H
                                  have p21 : 0 ≤ (x5_4 : Int) := of_decide_eq_true (by first | (with_reducible assumption) | assumption)
                                  have q21 : x5_4 < (a0.size : Int) := of_decide_eq_true (by first | (with_reducible assumption) | assumption)
                                  have hx21 := bt_at a0 x5_4
                                  replace p21 := eq_true p21
                                  replace q21 := eq_true q21
                                  go_wp2
                                  go_loopg [5] k4 (fun kq v5 w' => ∃ (x5_5 : Int), v5 = .int .i64 x5_5 ∧ Aside0 (topiaristlaw01_LexPlaces.l2 kq a0 t102 x5_5 x6_1 x7_10 = some r) ∧ Aside0 (kq ≤ k4) ∧ Aside0 (Kd.R k36 36 w' w.heap.size (fun _ => True) (.slice Ao12 t102.length co12) t102) ∧ Aside0 (w'.heap[gb107]? = some (.cells #[.int .i64 t105, .int .i64 t106] 26 (0, 0))) ∧ Aside0 (Below w.heap.size w w'))
                                  case atStart => exact ⟨(x5_4), (by first | rfl | (simp; done) | (simp [*]; done) | (simp [*, one_size]; done)), H', ⟨Nat.le_refl _⟩, ⟨by (with_reducible repeat (first | apply Kd.R_alloc | apply Kd.R_drewN | apply Kd.R_drew)); exact HO_3.out⟩, ⟨by (with_reducible repeat (first | refine blk_drewN ?_ _ | refine blk_drew ?_ | refine blk_alloc ?_ _)); exact BK107.out⟩, ⟨by repeat (first | (with_reducible first | exact HB.out | apply below_alloc | apply pw_below_drewN | apply below_drew1 | refine below_set ?_ GE107.out) | exact HB.out)⟩⟩
                                  case round =>
                                    clear H'
                                    try clear c1
                                    try clear p1
                                    try clear q1
                                    try clear hx1
                                    try clear c2
                                    try clear c2b0
                                    try clear c2b1
                                    try clear p2
                                    try clear q2
                                    try clear hx2
                                    try clear c4
                                    try clear c6
                                    try clear c6b0
                                    try clear c6b1
                                    try clear c9
                                    try clear c10
                                    try clear c10b0
                                    try clear p11
                                    try clear q11
                                    try clear hx11
                                    try clear c13
                                    try clear c13b0
                                    try clear c14
                                    try clear c14b0
                                    try clear c16
                                    try clear c16b0
                                    try clear c17
                                    try clear c18
                                    try clear c18b0
                                    try clear c19
                                    try clear c19b0
                                    try clear c20
                                    try clear c20b0
                                    try clear p21
                                    try clear q21
                                    try clear hx21
                                    try clear c22
                                    try clear c22b0
                                    try clear c22b1
                                    try clear hcz9_0
                                    try clear hcz9_1
                                    try clear hfz9_0
                                    try clear hfz9_1
                                    try clear hx110_0
                                    try clear hx110_1
                                    try clear hx110_2
                                    try clear p1
                                    try clear p11
                                    try clear p110
                                    try clear p2
                                    try clear p21
                                    try clear q1
                                    try clear q11
                                    try clear q110
                                    try clear q21
                                    obtain ⟨x5_5, rfl, HA, HK5, HO_3, BK107, HB⟩ := hrel
                                    cases gk with
                                    | zero => exact absurd HA.out (by simp [topiaristlaw01_LexPlaces.l2])
                                    | succ k5 =>
                                      have H := HA.out
                                      clear HA
                                      simp only [topiaristlaw01_LexPlaces.l2] at H
                                      by_cases c23 : x5_5 < x7_10
                                      · rw [if_pos c23] at H
                                        have c23b0 : decide (x5_5 < x7_10) = true := decide_eq_true c23
                                        clear c23
                                        by_cases c24 : 0 ≤ x5_5
                                        · rw [if_pos c24] at H
                                          have c24b0 : decide (0 ≤ x5_5) = true := decide_eq_true c24
                                          clear c24
                                          by_cases c25 : x5_5 < (a0.size : Int)
                                          · rw [if_pos c25] at H
                                            have c25b0 : decide (x5_5 < (a0.size : Int)) = true := decide_eq_true c25
                                            clear c25
                                            by_cases c27 : (bt a0 x5_5) = 10
                                            · rw [if_pos c27] at H
                                              have c27b0 : ((bt a0 x5_5) == 10) = true := beq_iff_eq.mpr c27
                                              have c27b1 : ((bt a0 x5_5) != 10) = false := bne_eq_false_iff_eq.mpr c27
                                              clear c27
                                              have H' := Aside0.mk H
                                              clear H
                                              have p26 : 0 ≤ (x5_5 : Int) := of_decide_eq_true (by first | (with_reducible assumption) | assumption)
                                              have q26 : x5_5 < (a0.size : Int) := of_decide_eq_true (by first | (with_reducible assumption) | assumption)
                                              have hx26 := bt_at a0 x5_5
                                              replace p26 := eq_true p26
                                              replace q26 := eq_true q26
                                              go_wp2
                                              go_roundg k5
                                              case measure => have := HK1.out; have := HJ10.out; have := HJ14.out; have := HK4.out; have := HK5.out; omega
                                              case rel => exact ⟨(x5_5), (by first | rfl | (simp; done) | (simp [*]; done) | (simp [*, one_size]; done)), H', ⟨by have := HK1.out; have := HJ10.out; have := HJ14.out; have := HK4.out; have := HK5.out; omega⟩, ⟨by (with_reducible repeat (first | apply Kd.R_alloc | apply Kd.R_drewN | apply Kd.R_drew)); exact HO_3.out⟩, ⟨by (with_reducible repeat (first | refine blk_drewN ?_ _ | refine blk_drew ?_ | refine blk_alloc ?_ _)); exact BK107.out⟩, ⟨by repeat (first | (with_reducible first | exact HB.out | apply below_alloc | apply pw_below_drewN | apply below_drew1 | refine below_set ?_ GE107.out) | exact HB.out)⟩⟩
                                            · rw [if_neg c27] at H
                                              have c27b0 : ((bt a0 x5_5) == 10) = false := beq_eq_false_iff_ne.mpr c27
                                              have c27b1 : ((bt a0 x5_5) != 10) = true := bne_iff_ne.mpr c27
                                              have H' := Aside0.mk H
                                              clear H
                                              have p26 : 0 ≤ (x5_5 : Int) := of_decide_eq_true (by first | (with_reducible assumption) | assumption)
                                              have q26 : x5_5 < (a0.size : Int) := of_decide_eq_true (by first | (with_reducible assumption) | assumption)
                                              have hx26 := bt_at a0 x5_5
                                              replace p26 := eq_true p26
                                              replace q26 := eq_true q26
                                              go_wp2
                                              go_roundg k5
                                              case measure => have := HK1.out; have := HJ10.out; have := HJ14.out; have := HK4.out; have := HK5.out; omega
                                              case rel => exact ⟨(wrap64 (x5_5 + 1)), (by first | rfl | (simp; done) | (simp [*]; done) | (simp [*, one_size]; done)), H', ⟨by have := HK1.out; have := HJ10.out; have := HJ14.out; have := HK4.out; have := HK5.out; omega⟩, ⟨by (with_reducible repeat (first | apply Kd.R_alloc | apply Kd.R_drewN | apply Kd.R_drew)); exact HO_3.out⟩, ⟨by (with_reducible repeat (first | refine blk_drewN ?_ _ | refine blk_drew ?_ | refine blk_alloc ?_ _)); exact BK107.out⟩, ⟨by repeat (first | (with_reducible first | exact HB.out | apply below_alloc | apply pw_below_drewN | apply below_drew1 | refine below_set ?_ GE107.out) | exact HB.out)⟩⟩
                                          · rw [if_neg c25] at H
                                            exact absurd H (by simp)
                                        · rw [if_neg c24] at H
                                          exact absurd H (by simp)
                                      · rw [if_neg c23] at H
                                        have c23b0 : decide (x5_5 < x7_10) = false := decide_eq_false c23
                                        clear c23
                                        have H' := Aside0.mk H
                                        clear H
                                        go_wp2
                                        go_roundg k5
                                        case measure => have := HK1.out; have := HJ10.out; have := HJ14.out; have := HK4.out; have := HK5.out; omega
                                        case rel => exact ⟨(x5_5), (by first | rfl | (simp; done) | (simp [*]; done) | (simp [*, one_size]; done)), H', ⟨by have := HK1.out; have := HJ10.out; have := HJ14.out; have := HK4.out; have := HK5.out; omega⟩, ⟨by (with_reducible repeat (first | apply Kd.R_alloc | apply Kd.R_drewN | apply Kd.R_drew)); exact HO_3.out⟩, ⟨by (with_reducible repeat (first | refine blk_drewN ?_ _ | refine blk_drew ?_ | refine blk_alloc ?_ _)); exact BK107.out⟩, ⟨by repeat (first | (with_reducible first | exact HB.out | apply below_alloc | apply pw_below_drewN | apply below_drew1 | refine below_set ?_ GE107.out) | exact HB.out)⟩⟩
                                · rw [if_neg c22] at H
                                  have c22b0 : ((bt a0 x5_4) == 35) = false := beq_eq_false_iff_ne.mpr c22
                                  have c22b1 : ((bt a0 x5_4) != 35) = true := bne_iff_ne.mpr c22
                                  by_cases c29 : (bt a0 x5_4) = 32
                                  · rw [if_pos c29] at H
                                    have c29b0 : ((bt a0 x5_4) == 32) = true := beq_iff_eq.mpr c29
                                    have c29b1 : ((bt a0 x5_4) != 32) = false := bne_eq_false_iff_eq.mpr c29
                                    clear c29
                                    have H' := Aside0.mk H
                                    clear H
                                    have p21 : 0 ≤ (x5_4 : Int) := of_decide_eq_true (by first | (with_reducible assumption) | assumption)
                                    have q21 : x5_4 < (a0.size : Int) := of_decide_eq_true (by first | (with_reducible assumption) | assumption)
                                    have hx21 := bt_at a0 x5_4
                                    replace p21 := eq_true p21
                                    replace q21 := eq_true q21
                                    have p28 : 0 ≤ (x5_4 : Int) := of_decide_eq_true (by first | (with_reducible assumption) | assumption)
                                    have q28 : x5_4 < (a0.size : Int) := of_decide_eq_true (by first | (with_reducible assumption) | assumption)
                                    have hx28 := bt_at a0 x5_4
                                    replace p28 := eq_true p28
                                    replace q28 := eq_true q28
                                    go_wp2
                                    go_roundg k4
                                    case measure => have := HK1.out; have := HJ10.out; have := HJ14.out; have := HK4.out; omega
                                    case rel => exact ⟨(wrap64 (x5_4 + 1)), (by first | rfl | (simp; done) | (simp [*]; done) | (simp [*, one_size]; done)), H', ⟨by have := HK1.out; have := HJ10.out; have := HJ14.out; have := HK4.out; omega⟩, ⟨by (with_reducible repeat (first | apply Kd.R_alloc | apply Kd.R_drewN | apply Kd.R_drew)); exact HO_3.out⟩, ⟨by (with_reducible repeat (first | refine blk_drewN ?_ _ | refine blk_drew ?_ | refine blk_alloc ?_ _)); exact BK107.out⟩, ⟨by repeat (first | (with_reducible first | exact HB.out | apply below_alloc | apply pw_below_drewN | apply below_drew1 | refine below_set ?_ GE107.out) | exact HB.out)⟩⟩
                                  · rw [if_neg c29] at H
                                    have c29b0 : ((bt a0 x5_4) == 32) = false := beq_eq_false_iff_ne.mpr c29
                                    have c29b1 : ((bt a0 x5_4) != 32) = true := bne_iff_ne.mpr c29
                                    by_cases c31 : (bt a0 x5_4) = 9
                                    · rw [if_pos c31] at H
                                      have c31b0 : ((bt a0 x5_4) == 9) = true := beq_iff_eq.mpr c31
                                      have c31b1 : ((bt a0 x5_4) != 9) = false := bne_eq_false_iff_eq.mpr c31
                                      clear c31
                                      have H' := Aside0.mk H
                                      clear H
                                      have p21 : 0 ≤ (x5_4 : Int) := of_decide_eq_true (by first | (with_reducible assumption) | assumption)
                                      have q21 : x5_4 < (a0.size : Int) := of_decide_eq_true (by first | (with_reducible assumption) | assumption)
                                      have hx21 := bt_at a0 x5_4
                                      replace p21 := eq_true p21
                                      replace q21 := eq_true q21
                                      have p28 : 0 ≤ (x5_4 : Int) := of_decide_eq_true (by first | (with_reducible assumption) | assumption)
                                      have q28 : x5_4 < (a0.size : Int) := of_decide_eq_true (by first | (with_reducible assumption) | assumption)
                                      have hx28 := bt_at a0 x5_4
                                      replace p28 := eq_true p28
                                      replace q28 := eq_true q28
                                      have p30 : 0 ≤ (x5_4 : Int) := of_decide_eq_true (by first | (with_reducible assumption) | assumption)
                                      have q30 : x5_4 < (a0.size : Int) := of_decide_eq_true (by first | (with_reducible assumption) | assumption)
                                      have hx30 := bt_at a0 x5_4
                                      replace p30 := eq_true p30
                                      replace q30 := eq_true q30
                                      go_wp2
                                      go_roundg k4
                                      case measure => have := HK1.out; have := HJ10.out; have := HJ14.out; have := HK4.out; omega
                                      case rel => exact ⟨(wrap64 (x5_4 + 1)), (by first | rfl | (simp; done) | (simp [*]; done) | (simp [*, one_size]; done)), H', ⟨by have := HK1.out; have := HJ10.out; have := HJ14.out; have := HK4.out; omega⟩, ⟨by (with_reducible repeat (first | apply Kd.R_alloc | apply Kd.R_drewN | apply Kd.R_drew)); exact HO_3.out⟩, ⟨by (with_reducible repeat (first | refine blk_drewN ?_ _ | refine blk_drew ?_ | refine blk_alloc ?_ _)); exact BK107.out⟩, ⟨by repeat (first | (with_reducible first | exact HB.out | apply below_alloc | apply pw_below_drewN | apply below_drew1 | refine below_set ?_ GE107.out) | exact HB.out)⟩⟩
                                    · rw [if_neg c31] at H
                                      have c31b0 : ((bt a0 x5_4) == 9) = false := beq_eq_false_iff_ne.mpr c31
                                      have c31b1 : ((bt a0 x5_4) != 9) = true := bne_iff_ne.mpr c31
                                      by_cases c33 : (bt a0 x5_4) = 10
                                      · rw [if_pos c33] at H
                                        have c33b0 : ((bt a0 x5_4) == 10) = true := beq_iff_eq.mpr c33
                                        have c33b1 : ((bt a0 x5_4) != 10) = false := bne_eq_false_iff_eq.mpr c33
                                        clear c33
                                        have H' := Aside0.mk H
                                        clear H
                                        have p21 : 0 ≤ (x5_4 : Int) := of_decide_eq_true (by first | (with_reducible assumption) | assumption)
                                        have q21 : x5_4 < (a0.size : Int) := of_decide_eq_true (by first | (with_reducible assumption) | assumption)
                                        have hx21 := bt_at a0 x5_4
                                        replace p21 := eq_true p21
                                        replace q21 := eq_true q21
                                        have p28 : 0 ≤ (x5_4 : Int) := of_decide_eq_true (by first | (with_reducible assumption) | assumption)
                                        have q28 : x5_4 < (a0.size : Int) := of_decide_eq_true (by first | (with_reducible assumption) | assumption)
                                        have hx28 := bt_at a0 x5_4
                                        replace p28 := eq_true p28
                                        replace q28 := eq_true q28
                                        have p30 : 0 ≤ (x5_4 : Int) := of_decide_eq_true (by first | (with_reducible assumption) | assumption)
                                        have q30 : x5_4 < (a0.size : Int) := of_decide_eq_true (by first | (with_reducible assumption) | assumption)
                                        have hx30 := bt_at a0 x5_4
                                        replace p30 := eq_true p30
                                        replace q30 := eq_true q30
                                        have p32 : 0 ≤ (x5_4 : Int) := of_decide_eq_true (by first | (with_reducible assumption) | assumption)
                                        have q32 : x5_4 < (a0.size : Int) := of_decide_eq_true (by first | (with_reducible assumption) | assumption)
                                        have hx32 := bt_at a0 x5_4
                                        replace p32 := eq_true p32
                                        replace q32 := eq_true q32
                                        go_wp2
                                        go_roundg k4
                                        case measure => have := HK1.out; have := HJ10.out; have := HJ14.out; have := HK4.out; omega
                                        case rel => exact ⟨(wrap64 (x5_4 + 1)), (by first | rfl | (simp; done) | (simp [*]; done) | (simp [*, one_size]; done)), H', ⟨by have := HK1.out; have := HJ10.out; have := HJ14.out; have := HK4.out; omega⟩, ⟨by (with_reducible repeat (first | apply Kd.R_alloc | apply Kd.R_drewN | apply Kd.R_drew)); exact HO_3.out⟩, ⟨by (with_reducible repeat (first | refine blk_drewN ?_ _ | refine blk_drew ?_ | refine blk_alloc ?_ _)); exact BK107.out⟩, ⟨by repeat (first | (with_reducible first | exact HB.out | apply below_alloc | apply pw_below_drewN | apply below_drew1 | refine below_set ?_ GE107.out) | exact HB.out)⟩⟩
                                      · rw [if_neg c33] at H
                                        have c33b0 : ((bt a0 x5_4) == 10) = false := beq_eq_false_iff_ne.mpr c33
                                        have c33b1 : ((bt a0 x5_4) != 10) = true := bne_iff_ne.mpr c33
                                        obtain rfl := Option.some.inj H
                                        have p21 : 0 ≤ (x5_4 : Int) := of_decide_eq_true (by first | (with_reducible assumption) | assumption)
                                        have q21 : x5_4 < (a0.size : Int) := of_decide_eq_true (by first | (with_reducible assumption) | assumption)
                                        have hx21 := bt_at a0 x5_4
                                        replace p21 := eq_true p21
                                        replace q21 := eq_true q21
                                        have p28 : 0 ≤ (x5_4 : Int) := of_decide_eq_true (by first | (with_reducible assumption) | assumption)
                                        have q28 : x5_4 < (a0.size : Int) := of_decide_eq_true (by first | (with_reducible assumption) | assumption)
                                        have hx28 := bt_at a0 x5_4
                                        replace p28 := eq_true p28
                                        replace q28 := eq_true q28
                                        have p30 : 0 ≤ (x5_4 : Int) := of_decide_eq_true (by first | (with_reducible assumption) | assumption)
                                        have q30 : x5_4 < (a0.size : Int) := of_decide_eq_true (by first | (with_reducible assumption) | assumption)
                                        have hx30 := bt_at a0 x5_4
                                        replace p30 := eq_true p30
                                        replace q30 := eq_true q30
                                        have p32 : 0 ≤ (x5_4 : Int) := of_decide_eq_true (by first | (with_reducible assumption) | assumption)
                                        have q32 : x5_4 < (a0.size : Int) := of_decide_eq_true (by first | (with_reducible assumption) | assumption)
                                        have hx32 := bt_at a0 x5_4
                                        replace p32 := eq_true p32
                                        replace q32 := eq_true q32
                                        go_wp2
                                        go_ret
                                        exact ⟨by first | rfl | (simp [errW_none, errW_some] <;> rfl) | (simp [*, errW_none, errW_some] <;> rfl), by repeat (first | (with_reducible first | exact HB.out | apply below_alloc | apply pw_below_drewN | apply below_drew1 | refine below_set ?_ GE107.out) | exact HB.out)⟩
                              · rw [if_neg c20] at H
                                exact absurd H (by simp)
                            · rw [if_neg c19] at H
                              exact absurd H (by simp)
                          · rw [if_neg c18] at H
                            have c18b0 : decide (x5_4 < x7_10) = false := decide_eq_false c18
                            clear c18
                            by_cases c34 : x6_1 = (t102.length : Int)
                            · rw [if_pos c34] at H
                              have c34b0 : (x6_1 == (t102.length : Int)) = true := beq_iff_eq.mpr c34
                              have c34b1 : (x6_1 != (t102.length : Int)) = false := bne_eq_false_iff_eq.mpr c34
                              clear c34
                              replace H := Option.bind_eq_some_iff.mp H
                              obtain ⟨t111, A350, H⟩ := H
                              replace H : (some t111) = some r := H
                              have A35 := Aside0.mk A350
                              clear A350
                              obtain rfl := Option.some.inj H
                              go_wp2_with (first | ((with_reducible refine gate_callee (f := 9) rfl ?_); refine goesL_ (some 146) rfl rfl Try.func9 (by kernel_rfl) rfl #[] rfl (by (try simp only [List.map_toArray, List.map_cons, List.map_nil]); first | done | rfl | (simp only [List.length_drop, List.length_take]; rfl)) ?_; (with_reducible refine (topiaristlaw01_wakes.calls  t111 _ A35.out).mono ?_); rintro e w36 ⟨rfl, hb⟩; refine ⟨_, rfl, ?_⟩; have n0_ := Aside0.mk (Kd.R_below (by (with_reducible repeat (first | apply Kd.R_alloc | apply Kd.R_drewN | apply Kd.R_drew)); exact HO_3.out) hb); have n1_ := Aside0.mk (blk_below (g := gb107) (o := .cells #[.int .i64 t105, .int .i64 t106] 26 (0, 0)) (by (with_reducible repeat (first | refine blk_drewN ?_ _ | refine blk_drew ?_ | refine blk_alloc ?_ _)); exact BK107.out) hb); have n2_ := Aside0.mk (below_step (by repeat (first | (with_reducible first | exact HB.out | apply below_alloc | apply pw_below_drewN | apply below_drew1 | refine below_set ?_ GE107.out) | exact HB.out)) hb); clear HO_3; clear BK107; clear HB; have HO_3 := n0_; have BK107 := n1_; have HB := n2_; clear n0_ n1_ n2_; (try clear hb); (try clear hb2); (try clear hk); (try clear hi)))
                              go_ret
                              exact ⟨by first | rfl | (simp [errW_none, errW_some] <;> rfl) | (simp [*, errW_none, errW_some] <;> rfl), by repeat (first | (with_reducible first | exact HB.out | apply below_alloc | apply pw_below_drewN | apply below_drew1 | refine below_set ?_ GE107.out) | exact HB.out)⟩
                            · rw [if_neg c34] at H
                              have c34b0 : (x6_1 == (t102.length : Int)) = false := beq_eq_false_iff_ne.mpr c34
                              have c34b1 : (x6_1 != (t102.length : Int)) = true := bne_iff_ne.mpr c34
                              by_cases c37 : 0 ≤ x6_1
                              · rw [if_pos c37] at H
                                have c37b0 : decide (0 ≤ x6_1) = true := decide_eq_true c37
                                clear c37
                                by_cases c38 : x6_1 < (t102.length : Int)
                                · rw [if_pos c38] at H
                                  have c38b0 : decide (x6_1 < (t102.length : Int)) = true := decide_eq_true c38
                                  clear c38
                                  by_cases c39 : ((rd_T36 t102 x6_1).f0) = 2
                                  · rw [if_pos c39] at H
                                    have c39b0 : (((rd_T36 t102 x6_1).f0) == 2) = true := beq_iff_eq.mpr c39
                                    have c39b1 : (((rd_T36 t102 x6_1).f0) != 2) = false := bne_eq_false_iff_eq.mpr c39
                                    clear c39
                                    by_cases c40 : 1 + ((rd_T36 t102 x6_1).f1).size ≤ 9223372036854775807
                                    · rw [if_pos c40] at H
                                      have c40b0 := eq_true c40
                                      try (have c40n := c40; simp only [ByteArray.size_append, Int.natCast_add, one_size, Int.natCast_one, Int.cast_ofNat_Int] at c40n)
                                      have c40b1 : decide (1 + ((rd_T36 t102 x6_1).f1).size ≤ 9223372036854775807) = true := decide_eq_true c40
                                      try have c40b2 : (9223372036854775807 < 1 + ((rd_T36 t102 x6_1).f1).size) = False := eq_false (Nat.not_lt.2 c40)
                                      by_cases c41 : ((⟨#[39]⟩ : ByteArray) ++ ((rd_T36 t102 x6_1).f1)).size + 1 ≤ 9223372036854775807
                                      · rw [if_pos c41] at H
                                        have c41b0 := eq_true c41
                                        try (have c41n := c41; simp only [ByteArray.size_append, Int.natCast_add, one_size, Int.natCast_one, Int.cast_ofNat_Int] at c41n)
                                        have c41b1 : decide (((⟨#[39]⟩ : ByteArray) ++ ((rd_T36 t102 x6_1).f1)).size + 1 ≤ 9223372036854775807) = true := decide_eq_true c41
                                        try (have c41b1n := c41b1; simp only [ByteArray.size_append, Int.natCast_add, one_size, Int.natCast_one, Int.cast_ofNat_Int] at c41b1n)
                                        try have c41b2 : (9223372036854775807 < ((⟨#[39]⟩ : ByteArray) ++ ((rd_T36 t102 x6_1).f1)).size + 1) = False := eq_false (Nat.not_lt.2 c41)
                                        try (have c41b2n := c41b2; simp only [ByteArray.size_append, Int.natCast_add, one_size, Int.natCast_one, Int.cast_ofNat_Int] at c41b2n)
                                        by_cases c42 : ((((⟨#[39]⟩ : ByteArray) ++ ((rd_T36 t102 x6_1).f1)) ++ (⟨#[39]⟩ : ByteArray)).size : Int) = 0
                                        · rw [if_pos c42] at H
                                          have c42b0 : (((((⟨#[39]⟩ : ByteArray) ++ ((rd_T36 t102 x6_1).f1)) ++ (⟨#[39]⟩ : ByteArray)).size : Int) == 0) = true := beq_iff_eq.mpr c42
                                          try (have c42b0n := c42b0; simp only [ByteArray.size_append, Int.natCast_add, one_size, Int.natCast_one, Int.cast_ofNat_Int] at c42b0n)
                                          have c42b1 : (((((⟨#[39]⟩ : ByteArray) ++ ((rd_T36 t102 x6_1).f1)) ++ (⟨#[39]⟩ : ByteArray)).size : Int) != 0) = false := bne_eq_false_iff_eq.mpr c42
                                          try (have c42b1n := c42b1; simp only [ByteArray.size_append, Int.natCast_add, one_size, Int.natCast_one, Int.cast_ofNat_Int] at c42b1n)
                                          clear c42
                                          obtain rfl := Option.some.inj H
                                          have p112 : 0 ≤ (x6_1 : Int) := of_decide_eq_true (by first | (with_reducible assumption) | assumption)
                                          have q112 : x6_1 < (t102.length : Int) := of_decide_eq_true (by first | (with_reducible assumption) | assumption)
                                          obtain ⟨ad112, e112, hx112_0, hx112_1, hx112_2⟩ := at_T36 (Kd.R_reads' HO_3.out).2.2 x6_1 p112 q112
                                          cases e112
                                          replace p112 := eq_true p112
                                          replace q112 := eq_true q112
                                          have p113 : 0 ≤ (x6_1 : Int) := of_decide_eq_true (by first | (with_reducible assumption) | assumption)
                                          have q113 : x6_1 < (t102.length : Int) := of_decide_eq_true (by first | (with_reducible assumption) | assumption)
                                          obtain ⟨ad113, e113, hx113_0, hx113_1, hx113_2⟩ := at_T36 (Kd.R_reads' HO_3.out).2.2 x6_1 p113 q113
                                          obtain rfl : ad112 = ad113 := (by injection e113)
                                          replace p113 := eq_true p113
                                          replace q113 := eq_true q113
                                          go_wp2
                                          go_ret
                                          exact ⟨by first | rfl | (simp [errW_none, errW_some] <;> rfl) | (simp [*, errW_none, errW_some] <;> rfl), by repeat (first | (with_reducible first | exact HB.out | apply below_alloc | apply pw_below_drewN | apply below_drew1 | refine below_set ?_ GE107.out) | exact HB.out)⟩
                                        · rw [if_neg c42] at H
                                          have c42b0 : (((((⟨#[39]⟩ : ByteArray) ++ ((rd_T36 t102 x6_1).f1)) ++ (⟨#[39]⟩ : ByteArray)).size : Int) == 0) = false := beq_eq_false_iff_ne.mpr c42
                                          try (have c42b0n := c42b0; simp only [ByteArray.size_append, Int.natCast_add, one_size, Int.natCast_one, Int.cast_ofNat_Int] at c42b0n)
                                          have c42b1 : (((((⟨#[39]⟩ : ByteArray) ++ ((rd_T36 t102 x6_1).f1)) ++ (⟨#[39]⟩ : ByteArray)).size : Int) != 0) = true := bne_iff_ne.mpr c42
                                          try (have c42b1n := c42b1; simp only [ByteArray.size_append, Int.natCast_add, one_size, Int.natCast_one, Int.cast_ofNat_Int] at c42b1n)
                                          by_cases c43 : (wrap64 (x5_4 + ((((⟨#[39]⟩ : ByteArray) ++ ((rd_T36 t102 x6_1).f1)) ++ (⟨#[39]⟩ : ByteArray)).size : Int))) > (a0.size : Int)
                                          · rw [if_pos c43] at H
                                            have c43b0 : decide ((a0.size : Int) < (wrap64 (x5_4 + ((((⟨#[39]⟩ : ByteArray) ++ ((rd_T36 t102 x6_1).f1)) ++ (⟨#[39]⟩ : ByteArray)).size : Int)))) = true := decide_eq_true c43
                                            try (have c43b0n := c43b0; simp only [ByteArray.size_append, Int.natCast_add, one_size, Int.natCast_one, Int.cast_ofNat_Int] at c43b0n)
                                            clear c43
                                            obtain rfl := Option.some.inj H
                                            have p112 : 0 ≤ (x6_1 : Int) := of_decide_eq_true (by first | (with_reducible assumption) | assumption)
                                            have q112 : x6_1 < (t102.length : Int) := of_decide_eq_true (by first | (with_reducible assumption) | assumption)
                                            obtain ⟨ad112, e112, hx112_0, hx112_1, hx112_2⟩ := at_T36 (Kd.R_reads' HO_3.out).2.2 x6_1 p112 q112
                                            cases e112
                                            replace p112 := eq_true p112
                                            replace q112 := eq_true q112
                                            have p113 : 0 ≤ (x6_1 : Int) := of_decide_eq_true (by first | (with_reducible assumption) | assumption)
                                            have q113 : x6_1 < (t102.length : Int) := of_decide_eq_true (by first | (with_reducible assumption) | assumption)
                                            obtain ⟨ad113, e113, hx113_0, hx113_1, hx113_2⟩ := at_T36 (Kd.R_reads' HO_3.out).2.2 x6_1 p113 q113
                                            obtain rfl : ad112 = ad113 := (by injection e113)
                                            replace p113 := eq_true p113
                                            replace q113 := eq_true q113
                                            go_wp2
                                            go_ret
                                            exact ⟨by first | rfl | (simp [errW_none, errW_some] <;> rfl) | (simp [*, errW_none, errW_some] <;> rfl), by repeat (first | (with_reducible first | exact HB.out | apply below_alloc | apply pw_below_drewN | apply below_drew1 | refine below_set ?_ GE107.out) | exact HB.out)⟩
                                          · rw [if_neg c43] at H
                                            have c43b0 : decide ((a0.size : Int) < (wrap64 (x5_4 + ((((⟨#[39]⟩ : ByteArray) ++ ((rd_T36 t102 x6_1).f1)) ++ (⟨#[39]⟩ : ByteArray)).size : Int)))) = false := decide_eq_false c43
                                            try (have c43b0n := c43b0; simp only [ByteArray.size_append, Int.natCast_add, one_size, Int.natCast_one, Int.cast_ofNat_Int] at c43b0n)
                                            clear c43
                                            by_cases c44 : 0 ≤ x5_4
                                            · rw [if_pos c44] at H
                                              have c44b0 := eq_true c44
                                              try (have c44n := c44; simp only [ByteArray.size_append, Int.natCast_add, one_size, Int.natCast_one, Int.cast_ofNat_Int] at c44n)
                                              have c44b1 : decide (0 ≤ x5_4) = true := decide_eq_true c44
                                              clear c44
                                              by_cases c45 : x5_4 ≤ (wrap64 (x5_4 + ((((⟨#[39]⟩ : ByteArray) ++ ((rd_T36 t102 x6_1).f1)) ++ (⟨#[39]⟩ : ByteArray)).size : Int)))
                                              · rw [if_pos c45] at H
                                                have c45b0 := eq_true c45
                                                try (have c45n := c45; simp only [ByteArray.size_append, Int.natCast_add, one_size, Int.natCast_one, Int.cast_ofNat_Int] at c45n)
                                                have c45b1 : decide (x5_4 ≤ (wrap64 (x5_4 + ((((⟨#[39]⟩ : ByteArray) ++ ((rd_T36 t102 x6_1).f1)) ++ (⟨#[39]⟩ : ByteArray)).size : Int)))) = true := decide_eq_true c45
                                                try (have c45b1n := c45b1; simp only [ByteArray.size_append, Int.natCast_add, one_size, Int.natCast_one, Int.cast_ofNat_Int] at c45b1n)
                                                by_cases c46 : (wrap64 (x5_4 + ((((⟨#[39]⟩ : ByteArray) ++ ((rd_T36 t102 x6_1).f1)) ++ (⟨#[39]⟩ : ByteArray)).size : Int))) ≤ (a0.size : Int)
                                                · rw [if_pos c46] at H
                                                  have c46b0 := eq_true c46
                                                  try (have c46n := c46; simp only [ByteArray.size_append, Int.natCast_add, one_size, Int.natCast_one, Int.cast_ofNat_Int] at c46n)
                                                  have c46b1 : decide ((wrap64 (x5_4 + ((((⟨#[39]⟩ : ByteArray) ++ ((rd_T36 t102 x6_1).f1)) ++ (⟨#[39]⟩ : ByteArray)).size : Int))) ≤ (a0.size : Int)) = true := decide_eq_true c46
                                                  try (have c46b1n := c46b1; simp only [ByteArray.size_append, Int.natCast_add, one_size, Int.natCast_one, Int.cast_ofNat_Int] at c46b1n)
                                                  by_cases c47 : (a0.extract (x5_4 : Int).toNat ((wrap64 (x5_4 + ((((⟨#[39]⟩ : ByteArray) ++ ((rd_T36 t102 x6_1).f1)) ++ (⟨#[39]⟩ : ByteArray)).size : Int))) : Int).toNat).toList = (((⟨#[39]⟩ : ByteArray) ++ ((rd_T36 t102 x6_1).f1)) ++ (⟨#[39]⟩ : ByteArray)).toList
                                                  · rw [if_pos c47] at H
                                                    have c47b0 : ((a0.extract (x5_4 : Int).toNat ((wrap64 (x5_4 + ((((⟨#[39]⟩ : ByteArray) ++ ((rd_T36 t102 x6_1).f1)) ++ (⟨#[39]⟩ : ByteArray)).size : Int))) : Int).toNat).toList == (((⟨#[39]⟩ : ByteArray) ++ ((rd_T36 t102 x6_1).f1)) ++ (⟨#[39]⟩ : ByteArray)).toList) = true := beq_iff_eq.mpr c47
                                                    try (have c47b0n := c47b0; simp only [ByteArray.size_append, Int.natCast_add, one_size, Int.natCast_one, Int.cast_ofNat_Int] at c47b0n)
                                                    have c47b1 : ((a0.extract (x5_4 : Int).toNat ((wrap64 (x5_4 + ((((⟨#[39]⟩ : ByteArray) ++ ((rd_T36 t102 x6_1).f1)) ++ (⟨#[39]⟩ : ByteArray)).size : Int))) : Int).toNat).toList != (((⟨#[39]⟩ : ByteArray) ++ ((rd_T36 t102 x6_1).f1)) ++ (⟨#[39]⟩ : ByteArray)).toList) = false := bne_eq_false_iff_eq.mpr c47
                                                    try (have c47b1n := c47b1; simp only [ByteArray.size_append, Int.natCast_add, one_size, Int.natCast_one, Int.cast_ofNat_Int] at c47b1n)
                                                    clear c47
                                                    have H' := Aside0.mk H
                                                    clear H
                                                    have p112 : 0 ≤ (x6_1 : Int) := of_decide_eq_true (by first | (with_reducible assumption) | assumption)
                                                    have q112 : x6_1 < (t102.length : Int) := of_decide_eq_true (by first | (with_reducible assumption) | assumption)
                                                    obtain ⟨ad112, e112, hx112_0, hx112_1, hx112_2⟩ := at_T36 (Kd.R_reads' HO_3.out).2.2 x6_1 p112 q112
                                                    cases e112
                                                    replace p112 := eq_true p112
                                                    replace q112 := eq_true q112
                                                    have p113 : 0 ≤ (x6_1 : Int) := of_decide_eq_true (by first | (with_reducible assumption) | assumption)
                                                    have q113 : x6_1 < (t102.length : Int) := of_decide_eq_true (by first | (with_reducible assumption) | assumption)
                                                    obtain ⟨ad113, e113, hx113_0, hx113_1, hx113_2⟩ := at_T36 (Kd.R_reads' HO_3.out).2.2 x6_1 p113 q113
                                                    obtain rfl : ad112 = ad113 := (by injection e113)
                                                    replace p113 := eq_true p113
                                                    replace q113 := eq_true q113
                                                    go_wp2
                                                    go_roundg k4
                                                    case measure => have := HK1.out; have := HJ10.out; have := HJ14.out; have := HK4.out; omega
                                                    case rel => exact ⟨(wrap64 (x5_4 + ((((⟨#[39]⟩ : ByteArray) ++ ((rd_T36 t102 x6_1).f1)) ++ (⟨#[39]⟩ : ByteArray)).size : Int))), (wrap64 (x6_1 + 1)), (by first | rfl | (simp; done) | (simp [*]; done) | (simp [*, one_size]; done)), (by first | rfl | (simp; done) | (simp [*]; done) | (simp [*, one_size]; done)), H', ⟨by have := HK1.out; have := HJ10.out; have := HJ14.out; have := HK4.out; omega⟩, ⟨by (with_reducible repeat (first | apply Kd.R_alloc | apply Kd.R_drewN | apply Kd.R_drew)); exact HO_3.out⟩, ⟨by (with_reducible repeat (first | refine blk_drewN ?_ _ | refine blk_drew ?_ | refine blk_alloc ?_ _)); exact BK107.out⟩, ⟨by repeat (first | (with_reducible first | exact HB.out | apply below_alloc | apply pw_below_drewN | apply below_drew1 | refine below_set ?_ GE107.out) | exact HB.out)⟩⟩
                                                  · rw [if_neg c47] at H
                                                    have c47b0 : ((a0.extract (x5_4 : Int).toNat ((wrap64 (x5_4 + ((((⟨#[39]⟩ : ByteArray) ++ ((rd_T36 t102 x6_1).f1)) ++ (⟨#[39]⟩ : ByteArray)).size : Int))) : Int).toNat).toList == (((⟨#[39]⟩ : ByteArray) ++ ((rd_T36 t102 x6_1).f1)) ++ (⟨#[39]⟩ : ByteArray)).toList) = false := beq_eq_false_iff_ne.mpr c47
                                                    try (have c47b0n := c47b0; simp only [ByteArray.size_append, Int.natCast_add, one_size, Int.natCast_one, Int.cast_ofNat_Int] at c47b0n)
                                                    have c47b1 : ((a0.extract (x5_4 : Int).toNat ((wrap64 (x5_4 + ((((⟨#[39]⟩ : ByteArray) ++ ((rd_T36 t102 x6_1).f1)) ++ (⟨#[39]⟩ : ByteArray)).size : Int))) : Int).toNat).toList != (((⟨#[39]⟩ : ByteArray) ++ ((rd_T36 t102 x6_1).f1)) ++ (⟨#[39]⟩ : ByteArray)).toList) = true := bne_iff_ne.mpr c47
                                                    try (have c47b1n := c47b1; simp only [ByteArray.size_append, Int.natCast_add, one_size, Int.natCast_one, Int.cast_ofNat_Int] at c47b1n)
                                                    obtain rfl := Option.some.inj H
                                                    have p112 : 0 ≤ (x6_1 : Int) := of_decide_eq_true (by first | (with_reducible assumption) | assumption)
                                                    have q112 : x6_1 < (t102.length : Int) := of_decide_eq_true (by first | (with_reducible assumption) | assumption)
                                                    obtain ⟨ad112, e112, hx112_0, hx112_1, hx112_2⟩ := at_T36 (Kd.R_reads' HO_3.out).2.2 x6_1 p112 q112
                                                    cases e112
                                                    replace p112 := eq_true p112
                                                    replace q112 := eq_true q112
                                                    have p113 : 0 ≤ (x6_1 : Int) := of_decide_eq_true (by first | (with_reducible assumption) | assumption)
                                                    have q113 : x6_1 < (t102.length : Int) := of_decide_eq_true (by first | (with_reducible assumption) | assumption)
                                                    obtain ⟨ad113, e113, hx113_0, hx113_1, hx113_2⟩ := at_T36 (Kd.R_reads' HO_3.out).2.2 x6_1 p113 q113
                                                    obtain rfl : ad112 = ad113 := (by injection e113)
                                                    replace p113 := eq_true p113
                                                    replace q113 := eq_true q113
                                                    go_wp2
                                                    go_ret
                                                    exact ⟨by first | rfl | (simp [errW_none, errW_some] <;> rfl) | (simp [*, errW_none, errW_some] <;> rfl), by repeat (first | (with_reducible first | exact HB.out | apply below_alloc | apply pw_below_drewN | apply below_drew1 | refine below_set ?_ GE107.out) | exact HB.out)⟩
                                                · rw [if_neg c46] at H
                                                  exact absurd H (by simp)
                                              · rw [if_neg c45] at H
                                                exact absurd H (by simp)
                                            · rw [if_neg c44] at H
                                              exact absurd H (by simp)
                                      · rw [if_neg c41] at H
                                        exact absurd H (by simp)
                                    · rw [if_neg c40] at H
                                      exact absurd H (by simp)
                                  · rw [if_neg c39] at H
                                    have c39b0 : (((rd_T36 t102 x6_1).f0) == 2) = false := beq_eq_false_iff_ne.mpr c39
                                    have c39b1 : (((rd_T36 t102 x6_1).f0) != 2) = true := bne_iff_ne.mpr c39
                                    by_cases c48 : (((rd_T36 t102 x6_1).f1).size : Int) = 0
                                    · rw [if_pos c48] at H
                                      have c48b0 : ((((rd_T36 t102 x6_1).f1).size : Int) == 0) = true := beq_iff_eq.mpr c48
                                      have c48b1 : ((((rd_T36 t102 x6_1).f1).size : Int) != 0) = false := bne_eq_false_iff_eq.mpr c48
                                      clear c48
                                      obtain rfl := Option.some.inj H
                                      have p112 : 0 ≤ (x6_1 : Int) := of_decide_eq_true (by first | (with_reducible assumption) | assumption)
                                      have q112 : x6_1 < (t102.length : Int) := of_decide_eq_true (by first | (with_reducible assumption) | assumption)
                                      obtain ⟨ad112, e112, hx112_0, hx112_1, hx112_2⟩ := at_T36 (Kd.R_reads' HO_3.out).2.2 x6_1 p112 q112
                                      cases e112
                                      replace p112 := eq_true p112
                                      replace q112 := eq_true q112
                                      have p113 : 0 ≤ (x6_1 : Int) := of_decide_eq_true (by first | (with_reducible assumption) | assumption)
                                      have q113 : x6_1 < (t102.length : Int) := of_decide_eq_true (by first | (with_reducible assumption) | assumption)
                                      obtain ⟨ad113, e113, hx113_0, hx113_1, hx113_2⟩ := at_T36 (Kd.R_reads' HO_3.out).2.2 x6_1 p113 q113
                                      obtain rfl : ad112 = ad113 := (by injection e113)
                                      replace p113 := eq_true p113
                                      replace q113 := eq_true q113
                                      go_wp2
                                      go_ret
                                      exact ⟨by first | rfl | (simp [errW_none, errW_some] <;> rfl) | (simp [*, errW_none, errW_some] <;> rfl), by repeat (first | (with_reducible first | exact HB.out | apply below_alloc | apply pw_below_drewN | apply below_drew1 | refine below_set ?_ GE107.out) | exact HB.out)⟩
                                    · rw [if_neg c48] at H
                                      have c48b0 : ((((rd_T36 t102 x6_1).f1).size : Int) == 0) = false := beq_eq_false_iff_ne.mpr c48
                                      have c48b1 : ((((rd_T36 t102 x6_1).f1).size : Int) != 0) = true := bne_iff_ne.mpr c48
                                      by_cases c49 : (wrap64 (x5_4 + (((rd_T36 t102 x6_1).f1).size : Int))) > (a0.size : Int)
                                      · rw [if_pos c49] at H
                                        have c49b0 : decide ((a0.size : Int) < (wrap64 (x5_4 + (((rd_T36 t102 x6_1).f1).size : Int)))) = true := decide_eq_true c49
                                        clear c49
                                        obtain rfl := Option.some.inj H
                                        have p112 : 0 ≤ (x6_1 : Int) := of_decide_eq_true (by first | (with_reducible assumption) | assumption)
                                        have q112 : x6_1 < (t102.length : Int) := of_decide_eq_true (by first | (with_reducible assumption) | assumption)
                                        obtain ⟨ad112, e112, hx112_0, hx112_1, hx112_2⟩ := at_T36 (Kd.R_reads' HO_3.out).2.2 x6_1 p112 q112
                                        cases e112
                                        replace p112 := eq_true p112
                                        replace q112 := eq_true q112
                                        have p113 : 0 ≤ (x6_1 : Int) := of_decide_eq_true (by first | (with_reducible assumption) | assumption)
                                        have q113 : x6_1 < (t102.length : Int) := of_decide_eq_true (by first | (with_reducible assumption) | assumption)
                                        obtain ⟨ad113, e113, hx113_0, hx113_1, hx113_2⟩ := at_T36 (Kd.R_reads' HO_3.out).2.2 x6_1 p113 q113
                                        obtain rfl : ad112 = ad113 := (by injection e113)
                                        replace p113 := eq_true p113
                                        replace q113 := eq_true q113
                                        go_wp2
                                        go_ret
                                        exact ⟨by first | rfl | (simp [errW_none, errW_some] <;> rfl) | (simp [*, errW_none, errW_some] <;> rfl), by repeat (first | (with_reducible first | exact HB.out | apply below_alloc | apply pw_below_drewN | apply below_drew1 | refine below_set ?_ GE107.out) | exact HB.out)⟩
                                      · rw [if_neg c49] at H
                                        have c49b0 : decide ((a0.size : Int) < (wrap64 (x5_4 + (((rd_T36 t102 x6_1).f1).size : Int)))) = false := decide_eq_false c49
                                        clear c49
                                        by_cases c50 : 0 ≤ x5_4
                                        · rw [if_pos c50] at H
                                          have c50b0 := eq_true c50
                                          try (have c50n := c50; simp only [ByteArray.size_append, Int.natCast_add, one_size, Int.natCast_one, Int.cast_ofNat_Int] at c50n)
                                          have c50b1 : decide (0 ≤ x5_4) = true := decide_eq_true c50
                                          clear c50
                                          by_cases c51 : x5_4 ≤ (wrap64 (x5_4 + (((rd_T36 t102 x6_1).f1).size : Int)))
                                          · rw [if_pos c51] at H
                                            have c51b0 := eq_true c51
                                            try (have c51n := c51; simp only [ByteArray.size_append, Int.natCast_add, one_size, Int.natCast_one, Int.cast_ofNat_Int] at c51n)
                                            have c51b1 : decide (x5_4 ≤ (wrap64 (x5_4 + (((rd_T36 t102 x6_1).f1).size : Int)))) = true := decide_eq_true c51
                                            by_cases c52 : (wrap64 (x5_4 + (((rd_T36 t102 x6_1).f1).size : Int))) ≤ (a0.size : Int)
                                            · rw [if_pos c52] at H
                                              have c52b0 := eq_true c52
                                              try (have c52n := c52; simp only [ByteArray.size_append, Int.natCast_add, one_size, Int.natCast_one, Int.cast_ofNat_Int] at c52n)
                                              have c52b1 : decide ((wrap64 (x5_4 + (((rd_T36 t102 x6_1).f1).size : Int))) ≤ (a0.size : Int)) = true := decide_eq_true c52
                                              by_cases c53 : (a0.extract (x5_4 : Int).toNat ((wrap64 (x5_4 + (((rd_T36 t102 x6_1).f1).size : Int))) : Int).toNat).toList = ((rd_T36 t102 x6_1).f1).toList
                                              · rw [if_pos c53] at H
                                                have c53b0 : ((a0.extract (x5_4 : Int).toNat ((wrap64 (x5_4 + (((rd_T36 t102 x6_1).f1).size : Int))) : Int).toNat).toList == ((rd_T36 t102 x6_1).f1).toList) = true := beq_iff_eq.mpr c53
                                                have c53b1 : ((a0.extract (x5_4 : Int).toNat ((wrap64 (x5_4 + (((rd_T36 t102 x6_1).f1).size : Int))) : Int).toNat).toList != ((rd_T36 t102 x6_1).f1).toList) = false := bne_eq_false_iff_eq.mpr c53
                                                clear c53
                                                have H' := Aside0.mk H
                                                clear H
                                                have p112 : 0 ≤ (x6_1 : Int) := of_decide_eq_true (by first | (with_reducible assumption) | assumption)
                                                have q112 : x6_1 < (t102.length : Int) := of_decide_eq_true (by first | (with_reducible assumption) | assumption)
                                                obtain ⟨ad112, e112, hx112_0, hx112_1, hx112_2⟩ := at_T36 (Kd.R_reads' HO_3.out).2.2 x6_1 p112 q112
                                                cases e112
                                                replace p112 := eq_true p112
                                                replace q112 := eq_true q112
                                                have p113 : 0 ≤ (x6_1 : Int) := of_decide_eq_true (by first | (with_reducible assumption) | assumption)
                                                have q113 : x6_1 < (t102.length : Int) := of_decide_eq_true (by first | (with_reducible assumption) | assumption)
                                                obtain ⟨ad113, e113, hx113_0, hx113_1, hx113_2⟩ := at_T36 (Kd.R_reads' HO_3.out).2.2 x6_1 p113 q113
                                                obtain rfl : ad112 = ad113 := (by injection e113)
                                                replace p113 := eq_true p113
                                                replace q113 := eq_true q113
                                                go_wp2
                                                go_roundg k4
                                                case measure => have := HK1.out; have := HJ10.out; have := HJ14.out; have := HK4.out; omega
                                                case rel => exact ⟨(wrap64 (x5_4 + (((rd_T36 t102 x6_1).f1).size : Int))), (wrap64 (x6_1 + 1)), (by first | rfl | (simp; done) | (simp [*]; done) | (simp [*, one_size]; done)), (by first | rfl | (simp; done) | (simp [*]; done) | (simp [*, one_size]; done)), H', ⟨by have := HK1.out; have := HJ10.out; have := HJ14.out; have := HK4.out; omega⟩, ⟨by (with_reducible repeat (first | apply Kd.R_alloc | apply Kd.R_drewN | apply Kd.R_drew)); exact HO_3.out⟩, ⟨by (with_reducible repeat (first | refine blk_drewN ?_ _ | refine blk_drew ?_ | refine blk_alloc ?_ _)); exact BK107.out⟩, ⟨by repeat (first | (with_reducible first | exact HB.out | apply below_alloc | apply pw_below_drewN | apply below_drew1 | refine below_set ?_ GE107.out) | exact HB.out)⟩⟩
                                              · rw [if_neg c53] at H
                                                have c53b0 : ((a0.extract (x5_4 : Int).toNat ((wrap64 (x5_4 + (((rd_T36 t102 x6_1).f1).size : Int))) : Int).toNat).toList == ((rd_T36 t102 x6_1).f1).toList) = false := beq_eq_false_iff_ne.mpr c53
                                                have c53b1 : ((a0.extract (x5_4 : Int).toNat ((wrap64 (x5_4 + (((rd_T36 t102 x6_1).f1).size : Int))) : Int).toNat).toList != ((rd_T36 t102 x6_1).f1).toList) = true := bne_iff_ne.mpr c53
                                                obtain rfl := Option.some.inj H
                                                have p112 : 0 ≤ (x6_1 : Int) := of_decide_eq_true (by first | (with_reducible assumption) | assumption)
                                                have q112 : x6_1 < (t102.length : Int) := of_decide_eq_true (by first | (with_reducible assumption) | assumption)
                                                obtain ⟨ad112, e112, hx112_0, hx112_1, hx112_2⟩ := at_T36 (Kd.R_reads' HO_3.out).2.2 x6_1 p112 q112
                                                cases e112
                                                replace p112 := eq_true p112
                                                replace q112 := eq_true q112
                                                have p113 : 0 ≤ (x6_1 : Int) := of_decide_eq_true (by first | (with_reducible assumption) | assumption)
                                                have q113 : x6_1 < (t102.length : Int) := of_decide_eq_true (by first | (with_reducible assumption) | assumption)
                                                obtain ⟨ad113, e113, hx113_0, hx113_1, hx113_2⟩ := at_T36 (Kd.R_reads' HO_3.out).2.2 x6_1 p113 q113
                                                obtain rfl : ad112 = ad113 := (by injection e113)
                                                replace p113 := eq_true p113
                                                replace q113 := eq_true q113
                                                go_wp2
                                                go_ret
                                                exact ⟨by first | rfl | (simp [errW_none, errW_some] <;> rfl) | (simp [*, errW_none, errW_some] <;> rfl), by repeat (first | (with_reducible first | exact HB.out | apply below_alloc | apply pw_below_drewN | apply below_drew1 | refine below_set ?_ GE107.out) | exact HB.out)⟩
                                            · rw [if_neg c52] at H
                                              exact absurd H (by simp)
                                          · rw [if_neg c51] at H
                                            exact absurd H (by simp)
                                        · rw [if_neg c50] at H
                                          exact absurd H (by simp)
                                · rw [if_neg c38] at H
                                  exact absurd H (by simp)
                              · rw [if_neg c37] at H
                                exact absurd H (by simp)
          · rw [if_neg c10] at H
            have c10b0 : decide (x6_1 ≤ (t102.length : Int)) = false := decide_eq_false c10
            clear c10
            replace H := Option.bind_eq_some_iff.mp H
            obtain ⟨t109, A540, H⟩ := H
            replace H : (some t109) = some r := H
            have A54 := Aside0.mk A540
            clear A540
            obtain rfl := Option.some.inj H
            obtain ⟨Ao55, co55, eo55⟩ := Kd.R_slice HO_3.out
            subst eo55
            go_wp2_with (first | ((with_reducible refine gate_callee (f := 9) rfl ?_); refine goesL_ (some 146) rfl rfl Try.func9 (by kernel_rfl) rfl #[] rfl (by (try simp only [List.map_toArray, List.map_cons, List.map_nil]); first | done | rfl | (simp only [List.length_drop, List.length_take]; rfl)) ?_; (with_reducible refine (topiaristlaw01_wakes.calls  t109 _ A54.out).mono ?_); rintro e w56 ⟨rfl, hb⟩; refine ⟨_, rfl, ?_⟩; have n0_ := Aside0.mk (Kd.R_below (by (with_reducible repeat (first | apply Kd.R_alloc | apply Kd.R_drewN | apply Kd.R_drew)); exact HO_3.out) hb); have n1_ := Aside0.mk (blk_below (g := gb107) (o := .cells #[.int .i64 t105, .int .i64 t106] 26 (0, 0)) (by (with_reducible repeat (first | refine blk_drewN ?_ _ | refine blk_drew ?_ | refine blk_alloc ?_ _)); exact BK107.out) hb); have n2_ := Aside0.mk (below_step (by repeat (first | (with_reducible first | exact HB.out | apply below_alloc | apply pw_below_drewN | apply below_drew1 | refine below_set ?_ GE107.out) | exact HB.out)) hb); clear HO_3; clear BK107; clear HB; have HO_3 := n0_; have BK107 := n1_; have HB := n2_; clear n0_ n1_ n2_; (try clear hb); (try clear hb2); (try clear hk); (try clear hi)))
            go_ret
            exact ⟨by first | rfl | (simp [errW_none, errW_some] <;> rfl) | (simp [*, errW_none, errW_some] <;> rfl), by repeat (first | (with_reducible first | exact HB.out | apply below_alloc | apply pw_below_drewN | apply below_drew1 | refine below_set ?_ GE107.out) | exact HB.out)⟩
    · rw [if_neg c6] at H
      have c6b0 : (t105 == 0) = false := beq_eq_false_iff_ne.mpr c6
      have c6b1 : (t105 != 0) = true := bne_iff_ne.mpr c6
      by_cases c57 : (t102.length : Int) = 0
      · rw [if_pos c57] at H
        have c57b0 : ((t102.length : Int) == 0) = true := beq_iff_eq.mpr c57
        have c57b1 : ((t102.length : Int) != 0) = false := bne_eq_false_iff_eq.mpr c57
        clear c57
        by_cases c58 : t106 ≥ 0
        · rw [if_pos c58] at H
          have c58b0 : decide (0 ≤ t106) = true := decide_eq_true c58
          clear c58
          by_cases c59 : t106 < (a0.size : Int)
          · rw [if_pos c59] at H
            have c59b0 : decide (t106 < (a0.size : Int)) = true := decide_eq_true c59
            clear c59
            replace H := Option.bind_eq_some_iff.mp H
            obtain ⟨t108, A600, H⟩ := H
            replace H : (some t108) = some r := H
            have A60 := Aside0.mk A600
            clear A600
            obtain rfl := Option.some.inj H
            go_enter Try.func4, Try.ntmps4
            go_wp2_with (first | ((with_reducible refine gate_callee (f := 10) rfl ?_); refine goesL_ (some 15) rfl rfl Try.func10 (by kernel_rfl) rfl #[.string a0] rfl (by (try simp only [List.map_toArray, List.map_cons, List.map_nil]); first | done | rfl | (simp only [List.length_drop, List.length_take]; rfl)) ?_; (with_reducible refine (lex_Tokens.calls a0 t102 t105 t106 _ A5.out).mono ?_); rintro e w61 ⟨v103, rfl, ho0, hb⟩; refine ⟨_, rfl, ?_⟩; have n0_ := Aside0.mk (Kd.R_lower ho0 (below_size (by repeat (first | (with_reducible first | exact HB.out | apply below_alloc | apply pw_below_drewN | apply below_drew1) | exact HB.out)))); have n1_ := Aside0.mk (below_step (by repeat (first | (with_reducible first | exact HB.out | apply below_alloc | apply pw_below_drewN | apply below_drew1) | exact HB.out)) hb); clear HB; have HO104 := n0_; have HB := n1_; clear n0_ n1_; (try clear hb); (try clear hb2); (try clear hk); (try clear hi); (try clear ho0)) | ((with_reducible refine gate_dst (N := 4) rfl ?_); (try (refine gate_guard (by rfl) ?_; dsimp only)); refine box_event ?hg (N := 4) ?hd (cs := #[.int .i64 0, .int .i64 0]) (t := 26) ?hr ?_; (case hd => rfl); (case hg => rfl); (case hr => first | (go_simp; done) | (go_simp; rfl)); intro gb107 hg w62 hbox hb; have n0_ := Aside0.mk (Kd.R_below (by (with_reducible repeat (first | apply Kd.R_alloc | apply Kd.R_drewN | apply Kd.R_drew)); exact HO104.out) hb); have n1_ := Aside0.mk (below_step (by repeat (first | (with_reducible first | exact HB.out | apply below_alloc | apply pw_below_drewN | apply below_drew1) | exact HB.out)) hb); have n2_ := Aside0.mk (hbox); have n3_ := Aside0.mk ((by rw [hg]; exact (below_size (by repeat (first | (with_reducible first | exact HB.out | apply below_alloc | apply pw_below_drewN | apply below_drew1) | exact HB.out))) : w.heap.size ≤ gb107)); have n4_ := Aside0.mk ((by rw [hg]; exact (below_size (by repeat (first | (with_reducible first | exact HB.out | apply below_alloc | apply pw_below_drewN | apply below_drew1) | exact HB.out))) : w.heap.size ≤ gb107)); clear HO104; clear HB; have HO104 := n0_; have HB := n1_; have BK107 := n2_; have GW107 := n3_; have GE107 := n4_; clear n0_ n1_ n2_ n3_ n4_; clear hb hbox hg; have hcz63_0 : w62.cell? ⟨gb107, 0, none⟩ = some (.int .i64 0) := (blk_cell BK107.out 0).trans rfl; have hcz63_1 : w62.cell? ⟨gb107, 1, none⟩ = some (.int .i64 0) := (blk_cell BK107.out 1).trans rfl; have hfz63_0 := blk_frozen BK107.out 0; have hfz63_1 := blk_frozen BK107.out 1; obtain ⟨Ao64, co64, eo64⟩ := Kd.R_slice HO104.out; subst eo64) | (go_at_call 9; (with_reducible refine (topiaristlaw01_wakes.calls  t108 _ A60.out).mono ?_); rintro e w65 ⟨rfl, hb⟩; have n0_ := Aside0.mk (Kd.R_below (by (with_reducible repeat (first | apply Kd.R_alloc | apply Kd.R_drewN | apply Kd.R_drew)); exact (Kd.R_mono (Kd.R_far (p := ⟨gb107, 1, none⟩) (Kd.R_far (p := ⟨gb107, 0, none⟩) (Kd.R_types HO104.out BK107.out (by decide)) (fun _ hk => hk.2) (.int .i64 t105)) (fun _ hk => hk.2) (.int .i64 t106)) (fun _ h_ => h_.1))) hb); have n1_ := Aside0.mk (blk_below (g := gb107) (o := .cells #[.int .i64 t105, .int .i64 t106] 26 (0, 0)) (by (with_reducible repeat (first | refine blk_drewN ?_ _ | refine blk_drew ?_ | refine blk_alloc ?_ _)); refine blk_put (cs := #[.int .i64 t105, .int .i64 0]) ?_ 1 _ rfl; (with_reducible repeat (first | refine blk_drewN ?_ _ | refine blk_drew ?_ | refine blk_alloc ?_ _)); refine blk_put (cs := #[.int .i64 0, .int .i64 0]) ?_ 0 _ rfl; (with_reducible repeat (first | refine blk_drewN ?_ _ | refine blk_drew ?_ | refine blk_alloc ?_ _)); exact BK107.out) hb); have n2_ := Aside0.mk (below_step (by repeat (first | (with_reducible first | exact HB.out | apply below_alloc | apply pw_below_drewN | apply below_drew1 | refine below_set ?_ GE107.out) | exact HB.out)) hb); clear HO104; clear BK107; clear HB; have HO104 := n0_; have BK107 := n1_; have HB := n2_; clear n0_ n1_ n2_; (try clear hb); (try clear hb2); (try clear hk); (try clear hi)))
            go_ret
            exact ⟨by first | rfl | (simp [errW_none, errW_some] <;> rfl) | (simp [*, errW_none, errW_some] <;> rfl), by repeat (first | (with_reducible first | exact HB.out | apply below_alloc | apply pw_below_drewN | apply below_drew1 | refine below_set ?_ GE107.out) | exact HB.out)⟩
          · rw [if_neg c59] at H
            have c59b0 : decide (t106 < (a0.size : Int)) = false := decide_eq_false c59
            clear c59
            obtain rfl := Option.some.inj H
            go_enter Try.func4, Try.ntmps4
            go_wp2_with (first | ((with_reducible refine gate_callee (f := 10) rfl ?_); refine goesL_ (some 15) rfl rfl Try.func10 (by kernel_rfl) rfl #[.string a0] rfl (by (try simp only [List.map_toArray, List.map_cons, List.map_nil]); first | done | rfl | (simp only [List.length_drop, List.length_take]; rfl)) ?_; (with_reducible refine (lex_Tokens.calls a0 t102 t105 t106 _ A5.out).mono ?_); rintro e w66 ⟨v103, rfl, ho0, hb⟩; refine ⟨_, rfl, ?_⟩; have n0_ := Aside0.mk (Kd.R_lower ho0 (below_size (by repeat (first | (with_reducible first | exact HB.out | apply below_alloc | apply pw_below_drewN | apply below_drew1) | exact HB.out)))); have n1_ := Aside0.mk (below_step (by repeat (first | (with_reducible first | exact HB.out | apply below_alloc | apply pw_below_drewN | apply below_drew1) | exact HB.out)) hb); clear HB; have HO104 := n0_; have HB := n1_; clear n0_ n1_; (try clear hb); (try clear hb2); (try clear hk); (try clear hi); (try clear ho0)) | ((with_reducible refine gate_dst (N := 4) rfl ?_); (try (refine gate_guard (by rfl) ?_; dsimp only)); refine box_event ?hg (N := 4) ?hd (cs := #[.int .i64 0, .int .i64 0]) (t := 26) ?hr ?_; (case hd => rfl); (case hg => rfl); (case hr => first | (go_simp; done) | (go_simp; rfl)); intro gb107 hg w67 hbox hb; have n0_ := Aside0.mk (Kd.R_below (by (with_reducible repeat (first | apply Kd.R_alloc | apply Kd.R_drewN | apply Kd.R_drew)); exact HO104.out) hb); have n1_ := Aside0.mk (below_step (by repeat (first | (with_reducible first | exact HB.out | apply below_alloc | apply pw_below_drewN | apply below_drew1) | exact HB.out)) hb); have n2_ := Aside0.mk (hbox); have n3_ := Aside0.mk ((by rw [hg]; exact (below_size (by repeat (first | (with_reducible first | exact HB.out | apply below_alloc | apply pw_below_drewN | apply below_drew1) | exact HB.out))) : w.heap.size ≤ gb107)); have n4_ := Aside0.mk ((by rw [hg]; exact (below_size (by repeat (first | (with_reducible first | exact HB.out | apply below_alloc | apply pw_below_drewN | apply below_drew1) | exact HB.out))) : w.heap.size ≤ gb107)); clear HO104; clear HB; have HO104 := n0_; have HB := n1_; have BK107 := n2_; have GW107 := n3_; have GE107 := n4_; clear n0_ n1_ n2_ n3_ n4_; clear hb hbox hg; have hcz68_0 : w67.cell? ⟨gb107, 0, none⟩ = some (.int .i64 0) := (blk_cell BK107.out 0).trans rfl; have hcz68_1 : w67.cell? ⟨gb107, 1, none⟩ = some (.int .i64 0) := (blk_cell BK107.out 1).trans rfl; have hfz68_0 := blk_frozen BK107.out 0; have hfz68_1 := blk_frozen BK107.out 1; obtain ⟨Ao69, co69, eo69⟩ := Kd.R_slice HO104.out; subst eo69))
            go_ret
            exact ⟨by first | rfl | (simp [errW_none, errW_some] <;> rfl) | (simp [*, errW_none, errW_some] <;> rfl), by repeat (first | (with_reducible first | exact HB.out | apply below_alloc | apply pw_below_drewN | apply below_drew1 | refine below_set ?_ GE107.out) | exact HB.out)⟩
        · rw [if_neg c58] at H
          have c58b0 : decide (0 ≤ t106) = false := decide_eq_false c58
          clear c58
          obtain rfl := Option.some.inj H
          go_enter Try.func4, Try.ntmps4
          go_wp2_with (first | ((with_reducible refine gate_callee (f := 10) rfl ?_); refine goesL_ (some 15) rfl rfl Try.func10 (by kernel_rfl) rfl #[.string a0] rfl (by (try simp only [List.map_toArray, List.map_cons, List.map_nil]); first | done | rfl | (simp only [List.length_drop, List.length_take]; rfl)) ?_; (with_reducible refine (lex_Tokens.calls a0 t102 t105 t106 _ A5.out).mono ?_); rintro e w70 ⟨v103, rfl, ho0, hb⟩; refine ⟨_, rfl, ?_⟩; have n0_ := Aside0.mk (Kd.R_lower ho0 (below_size (by repeat (first | (with_reducible first | exact HB.out | apply below_alloc | apply pw_below_drewN | apply below_drew1) | exact HB.out)))); have n1_ := Aside0.mk (below_step (by repeat (first | (with_reducible first | exact HB.out | apply below_alloc | apply pw_below_drewN | apply below_drew1) | exact HB.out)) hb); clear HB; have HO104 := n0_; have HB := n1_; clear n0_ n1_; (try clear hb); (try clear hb2); (try clear hk); (try clear hi); (try clear ho0)) | ((with_reducible refine gate_dst (N := 4) rfl ?_); (try (refine gate_guard (by rfl) ?_; dsimp only)); refine box_event ?hg (N := 4) ?hd (cs := #[.int .i64 0, .int .i64 0]) (t := 26) ?hr ?_; (case hd => rfl); (case hg => rfl); (case hr => first | (go_simp; done) | (go_simp; rfl)); intro gb107 hg w71 hbox hb; have n0_ := Aside0.mk (Kd.R_below (by (with_reducible repeat (first | apply Kd.R_alloc | apply Kd.R_drewN | apply Kd.R_drew)); exact HO104.out) hb); have n1_ := Aside0.mk (below_step (by repeat (first | (with_reducible first | exact HB.out | apply below_alloc | apply pw_below_drewN | apply below_drew1) | exact HB.out)) hb); have n2_ := Aside0.mk (hbox); have n3_ := Aside0.mk ((by rw [hg]; exact (below_size (by repeat (first | (with_reducible first | exact HB.out | apply below_alloc | apply pw_below_drewN | apply below_drew1) | exact HB.out))) : w.heap.size ≤ gb107)); have n4_ := Aside0.mk ((by rw [hg]; exact (below_size (by repeat (first | (with_reducible first | exact HB.out | apply below_alloc | apply pw_below_drewN | apply below_drew1) | exact HB.out))) : w.heap.size ≤ gb107)); clear HO104; clear HB; have HO104 := n0_; have HB := n1_; have BK107 := n2_; have GW107 := n3_; have GE107 := n4_; clear n0_ n1_ n2_ n3_ n4_; clear hb hbox hg; have hcz72_0 : w71.cell? ⟨gb107, 0, none⟩ = some (.int .i64 0) := (blk_cell BK107.out 0).trans rfl; have hcz72_1 : w71.cell? ⟨gb107, 1, none⟩ = some (.int .i64 0) := (blk_cell BK107.out 1).trans rfl; have hfz72_0 := blk_frozen BK107.out 0; have hfz72_1 := blk_frozen BK107.out 1; obtain ⟨Ao73, co73, eo73⟩ := Kd.R_slice HO104.out; subst eo73))
          go_ret
          exact ⟨by first | rfl | (simp [errW_none, errW_some] <;> rfl) | (simp [*, errW_none, errW_some] <;> rfl), by repeat (first | (with_reducible first | exact HB.out | apply below_alloc | apply pw_below_drewN | apply below_drew1 | refine below_set ?_ GE107.out) | exact HB.out)⟩
      · rw [if_neg c57] at H
        have c57b0 : ((t102.length : Int) == 0) = false := beq_eq_false_iff_ne.mpr c57
        have c57b1 : ((t102.length : Int) != 0) = true := bne_iff_ne.mpr c57
        have c57b2 : ¬ (t102 = []) := fun h_ => c57 (by rw [h_]; rfl)
        obtain rfl := Option.some.inj H
        go_enter Try.func4, Try.ntmps4
        go_wp2_with (first | ((with_reducible refine gate_callee (f := 10) rfl ?_); refine goesL_ (some 15) rfl rfl Try.func10 (by kernel_rfl) rfl #[.string a0] rfl (by (try simp only [List.map_toArray, List.map_cons, List.map_nil]); first | done | rfl | (simp only [List.length_drop, List.length_take]; rfl)) ?_; (with_reducible refine (lex_Tokens.calls a0 t102 t105 t106 _ A5.out).mono ?_); rintro e w74 ⟨v103, rfl, ho0, hb⟩; refine ⟨_, rfl, ?_⟩; have n0_ := Aside0.mk (Kd.R_lower ho0 (below_size (by repeat (first | (with_reducible first | exact HB.out | apply below_alloc | apply pw_below_drewN | apply below_drew1) | exact HB.out)))); have n1_ := Aside0.mk (below_step (by repeat (first | (with_reducible first | exact HB.out | apply below_alloc | apply pw_below_drewN | apply below_drew1) | exact HB.out)) hb); clear HB; have HO104 := n0_; have HB := n1_; clear n0_ n1_; (try clear hb); (try clear hb2); (try clear hk); (try clear hi); (try clear ho0)) | ((with_reducible refine gate_dst (N := 4) rfl ?_); (try (refine gate_guard (by rfl) ?_; dsimp only)); refine box_event ?hg (N := 4) ?hd (cs := #[.int .i64 0, .int .i64 0]) (t := 26) ?hr ?_; (case hd => rfl); (case hg => rfl); (case hr => first | (go_simp; done) | (go_simp; rfl)); intro gb107 hg w75 hbox hb; have n0_ := Aside0.mk (Kd.R_below (by (with_reducible repeat (first | apply Kd.R_alloc | apply Kd.R_drewN | apply Kd.R_drew)); exact HO104.out) hb); have n1_ := Aside0.mk (below_step (by repeat (first | (with_reducible first | exact HB.out | apply below_alloc | apply pw_below_drewN | apply below_drew1) | exact HB.out)) hb); have n2_ := Aside0.mk (hbox); have n3_ := Aside0.mk ((by rw [hg]; exact (below_size (by repeat (first | (with_reducible first | exact HB.out | apply below_alloc | apply pw_below_drewN | apply below_drew1) | exact HB.out))) : w.heap.size ≤ gb107)); have n4_ := Aside0.mk ((by rw [hg]; exact (below_size (by repeat (first | (with_reducible first | exact HB.out | apply below_alloc | apply pw_below_drewN | apply below_drew1) | exact HB.out))) : w.heap.size ≤ gb107)); clear HO104; clear HB; have HO104 := n0_; have HB := n1_; have BK107 := n2_; have GW107 := n3_; have GE107 := n4_; clear n0_ n1_ n2_ n3_ n4_; clear hb hbox hg; have hcz76_0 : w75.cell? ⟨gb107, 0, none⟩ = some (.int .i64 0) := (blk_cell BK107.out 0).trans rfl; have hcz76_1 : w75.cell? ⟨gb107, 1, none⟩ = some (.int .i64 0) := (blk_cell BK107.out 1).trans rfl; have hfz76_0 := blk_frozen BK107.out 0; have hfz76_1 := blk_frozen BK107.out 1; obtain ⟨Ao77, co77, eo77⟩ := Kd.R_slice HO104.out; subst eo77))
        go_ret
        exact ⟨by first | rfl | (simp [errW_none, errW_some] <;> rfl) | (simp [*, errW_none, errW_some] <;> rfl), by repeat (first | (with_reducible first | exact HB.out | apply below_alloc | apply pw_below_drewN | apply below_drew1 | refine below_set ?_ GE107.out) | exact HB.out)⟩

/-- THE ONE PURE STATEMENT of topiaristlaw01_LexPlaces: yours. -/
def topiaristlaw01_LexPlaces.Pure : Prop := ∀ (a0 : ByteArray), a0.size ≤ 140737488351232 → ∃ k, topiaristlaw01_LexPlaces.f k a0 = some true
theorem topiaristlaw01_LexPlaces.walk (P : topiaristlaw01_LexPlaces.Pure) (a0 : ByteArray) (w : World) (w0 : a0.size ≤ 140737488351232) :
    Calls Try.prog 4 #[.string a0] w fun e w' => e = .returned (.bool true) ∧ Below w.heap.size w w' := by
  obtain ⟨k, h⟩ := P a0 w0
  refine (topiaristlaw01_LexPlaces.calls k a0 true w h).mono ?_
  rintro e w' ⟨rfl, hd⟩
  exact ⟨rfl, hd⟩

end Go.Proofs.Ytfbncmcibfkfiaa.P
