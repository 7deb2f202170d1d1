/- wakes: the chapter's own example. -/
import Derived.Test.YtilldpmlcgikdaaPx11
import Derived.Test.YtilldpmlcgikdaaPx15
set_option linter.unusedVariables false
set_option linter.unusedSimpArgs false
namespace Go.Proofs.Ytilldpmlcgikdaa.P
open Go.RowKit Go.Proofs.YtilldpmlcgikdaaW.PrintWords Go.Proofs.YtilldpmlcgikdaaW.PrintLast Go.Proofs.YtilldpmlcgikdaaW.PrintMore Go.Proofs.Ytilldpmlcgikdaa.Base
def wtoks : List Tok := [⟨1, ⟨#[97]⟩, 0⟩, ⟨3, ⟨#[61]⟩, 2⟩, ⟨2, ⟨#[98]⟩, 4⟩, ⟨1, ⟨#[99]⟩, 8⟩, ⟨4, ⟨#[124]⟩, 10⟩, ⟨5, ⟨#[59]⟩, 12⟩]
def walts : List S40 := [⟨⟨1, ⟨#[97]⟩, 0⟩, [⟨2, ⟨#[98]⟩, 4⟩, ⟨1, ⟨#[99]⟩, 8⟩]⟩, ⟨⟨1, ⟨#[97]⟩, 0⟩, []⟩]
theorem w_lex : lex_Tokens.f ⟨#[97, 32, 61, 32, 39, 98, 39, 32, 99, 32, 124, 32, 59]⟩ = some (wtoks, 0, 0) := by kernel_rfl
theorem w_a1 : read_Alts.f wtoks 13 = some (walts, 0, 0) := by kernel_rfl
theorem w_a2 : read_Alts.f (wtoks.take 3) 99 = some ([], 12, 99) := by kernel_rfl
theorem w_a3 : read_Alts.f [] 5 = some ([], 12, 5) := by kernel_rfl
/-- A call of Alts on tokens that are read. -/
theorem alts_at (w1 W : World) (A : Option Addr) (n c : Nat) (l : List Tok) (e : Int) (r1 : List S40) (r2 r3 : Int) (hn : l.length = n) (hC : Kd.C k38 w1 A l.length l) (hc : n ≤ c) (hb : Below w1.heap.size w1 W) (h : read_Alts.f l e = some (r1, r2, r3)) :
    Calls Try.prog 11 #[.slice A n c, .int .i64 e] W fun e w' => ∃ A3 c3, e = .returned (.tuple #[.slice A3 r1.length c3, .agg #[.int .i64 r2, .int .i64 r3]]) ∧ Kd.C k40 w' A3 r1.length r1 ∧ r1.length ≤ c3 ∧ Below W.heap.size W w' := by
  subst hn
  refine (read_Alts.calls A c l e r1 r2 r3 W (Kd.C_below hC hb) hc h).mono ?_
  rintro e w2 ⟨v, rfl, hr, hb2⟩
  obtain ⟨A3, c3, rfl, hc3, hC3⟩ := Kd.R_reads hr
  exact ⟨A3, c3, rfl, hC3, hc3, hb2⟩
set_option maxHeartbeats 1600000 in
theorem wakes_is (w : World) : Calls Try.prog 10 #[] w fun e w' => e = .returned (.bool true) ∧ Below w.heap.size w w' := by
  have HB := Aside0.mk (Below.refl w.heap.size w)
  go_enter Try.func10, Try.ntmps10
  go_upto_region 7 with (first
    | (go_at_call 15; refine (lex_Tokens.calls _ _ _ _ _ w_lex).mono ?_; rintro e w1 ⟨v1, rfl, hr1, hb1⟩; obtain ⟨A1, c1, rfl, hc1, hC1⟩ := Kd.R_reads hr1; have HA1 := Aside0.mk (fun W hb => alts_at w1 W A1 wtoks.length c1 wtoks 13 walts 0 0 rfl hC1 hc1 hb w_a1); have HA2 := Aside0.mk (fun W hb => alts_at w1 W A1 3 c1 (wtoks.take 3) 99 [] 12 99 rfl (Kd.C_take hC1 (by decide)) (Nat.le_trans (by decide) hc1) hb w_a2); have HL1 : 3 ≤ c1 := Nat.le_trans (by decide) hc1; clear hr1 hC1 hc1)
    | (go_at_call 11; (with_reducible refine (HA1.out _ ?_).mono ?_); (exact (by repeat (first | exact Below.refl _ _ | apply below_alloc | apply pw_below_drewN | apply below_drew1 | refine below_set ?_ (by simp)))); rintro e w2 ⟨A3, c3, rfl, hC3, hc3, hb2⟩; have HC3 := Aside0.mk hC3; have HL3 := Aside0.mk hc3; have HB2 := Aside0.mk (below_step (below_alloc (Below.refl _ _) _) hb2); clear hC3 hc3)
    | (go_at_call 11; (with_reducible refine (HA2.out _ ?_).mono ?_); (exact (by repeat (first | exact HB2.out | exact Below.refl _ _ | apply below_alloc | apply pw_below_drewN | apply below_drew1 | refine below_set ?_ (by simp)))); rintro e w3 ⟨A5, c5, rfl, hC5, hc5, hb3⟩; clear hC5 hc5)
    | (go_at_call 11; (with_reducible refine (alts_at _ _ none 0 0 [] 5 [] 12 5 rfl (Kd.C_nil _ _) (Nat.le_refl _) (Below.refl _ _) w_a3).mono ?_); rintro e w4 ⟨A7, c7, rfl, hC7, hc7, hb4⟩; clear hC7 hc7)
    | fail)
  have b2 := blk_below (blk_below (blk_alloc (blk_below (blk_alloc (blk_below (blk_new w1 _) hb2) _) hb3) _) hb4) (below_alloc (Below.refl _ _) (.cells #[.int .i64 12, .int .i64 5] 28 (0, 0)))
  have b3 := blk_below (blk_below (blk_alloc (blk_below (blk_new w2 _) hb3) _) hb4) (below_alloc (Below.refl _ _) (.cells #[.int .i64 12, .int .i64 5] 28 (0, 0)))
  have b4 := blk_below (blk_below (blk_new w3 _) hb4) (below_alloc (Below.refl _ _) (.cells #[.int .i64 12, .int .i64 5] 28 (0, 0)))
  have b5 := blk_new w4 (.cells #[.int .i64 12, .int .i64 5] 28 (0, 0))
  have HBW := Aside0.mk (below_step (below_step (below_step (below_step hb1 (below_step (below_alloc (Below.refl _ _) _) hb2)) (below_step (below_alloc (Below.refl _ _) _) hb3)) (below_step (below_alloc (Below.refl _ _) _) hb4)) (below_alloc (Below.refl _ _) (.cells #[.int .i64 12, .int .i64 5] 28 (0, 0))))
  have hC := Kd.C_below HC3.out (below_step (below_step (below_step (below_alloc (Below.refl _ _) _) hb3) (below_step (below_alloc (Below.refl _ _) _) hb4)) (below_alloc (Below.refl _ _) (.cells #[.int .i64 12, .int .i64 5] 28 (0, 0))))
  have hl : walts.length = 2 := rfl
  generalize hW : w4.alloc (.cells #[.int .i64 12, .int .i64 5] 28 (0, 0)) = W at *
  clear hW HB2 HA1 HA2 hb1 hb2 hb3 hb4
  obtain ⟨ad, A, c, rfl, x0, x1, x2, x3, hc, hC0⟩ := at_T40 hC 0 (by decide) (by decide)
  obtain ⟨ad1, A', c', e1, y0, y1, y2, y3, hc', hC1⟩ := at_T40 hC 1 (by decide) (by decide)
  obtain rfl := Option.some.inj e1
  obtain ⟨ad2, hA, z0, z1, z2⟩ := at_T38 hC0 1 (by decide) (by decide)
  subst hA
  have r0 : rd_T40 walts 0 = ⟨⟨1, ⟨#[97]⟩, 0⟩, [⟨2, ⟨#[98]⟩, 4⟩, ⟨1, ⟨#[99]⟩, 8⟩]⟩ := rfl
  have r1 : rd_T40 walts 1 = ⟨⟨1, ⟨#[97]⟩, 0⟩, []⟩ := rfl
  have r2 : rd_T38 [⟨2, ⟨#[98]⟩, 4⟩, ⟨1, ⟨#[99]⟩, 8⟩] 1 = ⟨1, ⟨#[99]⟩, 8⟩ := rfl
  simp only [r0, r1, r2, Int.toNat_zero, Nat.zero_mul, add0, show Int.toNat 1 * 4 = 4 from rfl, show Int.toNat 1 * 3 = 3 from rfl, show ∀ a : Addr, a.add 4 = ⟨a.block, a.off + 4, none⟩ from fun _ => rfl, show ∀ a : Addr, a.add 3 = ⟨a.block, a.off + 3, none⟩ from fun _ => rfl, List.length_cons, List.length_nil] at x0 x1 x2 x3 y0 y1 y2 y3 z0 z1 z2 hl
  have f20 := (blk_cell b2 0).trans rfl
  have f30 := (blk_cell b4 0).trans rfl
  have f31 := (blk_cell b4 1).trans rfl
  have f40 := (blk_cell b5 0).trans rfl
  have f41 := (blk_cell b5 1).trans rfl
  have f30' := (blk_cell b3 0).trans rfl
  clear hC hC0 hC1 e1 b2 b3 b4 b5 r0 r1 r2 hc hc'
  simp only [List.getElem?_toArray, List.getElem?_cons_zero, List.getElem?_cons_succ] at f20 f30 f31 f40 f41 f30'
  go_wp2
  go_ret
  exact ⟨rfl, HBW.out⟩
end Go.Proofs.Ytilldpmlcgikdaa.P
