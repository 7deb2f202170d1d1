-- Written by this session's own program wip/gen.py; Lean checks it.
import Derived.Test.YtncgbkmhigdflaaPx0
import Derived.Test.YtncgbkmhigdflaaPx21
import Derived.Test.YtncgbkmhigdflaaPx29
import Derived.Test.YtncgbkmhigdflaaPx30
import Derived.Test.YtncgbkmhigdflaaBytesCaught
import Derived.Test.YtncgbkmhigdflaaPx29
import Derived.Test.YtncgbkmhigdflaaPx30
import Derived.Test.YtncgbkmhigdflaaPx21
import Derived.WalkLawsBesides
import Derived.Recover
import Derived.Defers
import Derived.RegionTactic
namespace Go.Proofs.Ytncgbkmhigdflaa.P
open Go.RowKit Go.Proofs.YtncgbkmhigdflaaW.PrintWords Go.Proofs.YtncgbkmhigdflaaW.PrintLast Go.Proofs.YtncgbkmhigdflaaW.PrintMore
attribute [local go_sem] max2_int min2_int max_two min_two max_three min_three max_four min_four   -- for this text's walks alone
set_option linter.unusedVariables false
set_option linter.unusedSimpArgs false

/-! ### bytes_Open: function 12 -/
-- import Derived.Test.YtncgbkmhigdflaaBytesCaught
-- import Derived.Test.YtncgbkmhigdflaaPx29
-- import Derived.Test.YtncgbkmhigdflaaPx30
-- import Derived.Test.YtncgbkmhigdflaaPx21
-- import Derived.WalkLawsBesides
-- import Derived.Recover
-- import Derived.Defers
-- import Derived.RegionTactic
open Go.Proofs.Ytncgbkmhigdflaa.Base Go.Proofs.Ytncgbkmhigdflaa.Caught
def bytes_Open.f (k : Nat) (l0 : List Int) : Option (List Int × Int) :=
  if (l0.length : Int) < 4 then some ([], 16) else
  (slices_Clone_byte_byte.f (l0.take (l0.length - 4))).bind fun o => (bytes_Seal.f k o).bind fun s => (slices_Equal_byte_byte.f k s l0).bind fun b => if b = true then some (o, 0) else some ([], 17)
theorem bytes_Open.mono : ∀ a0 k, LeO (bytes_Open.f k a0) (bytes_Open.f (k + 1) a0) := by
  intro a0 k
  unfold bytes_Open.f
  refine LeO.ite (LeO.refl _) ?_
  refine LeO.bind (LeO.refl _) (fun _ => ?_)
  refine LeO.bind (bytes_Seal.mono _ _) (fun _ => ?_)
  refine LeO.bind (slices_Equal_byte_byte.mono _ _ _) (fun _ => ?_)
  exact LeO.refl _
def WO (w : World) : World := (w.alloc (.cells #[.slice none 0 0] 22 (0, 0))).alloc (.cells #[.int .i64 0] 24 (0, 0))
theorem WO_0 (w : World) : (WO w).heap[w.heap.size]? = some (.cells #[.slice none 0 0] 22 (0, 0)) := blk_alloc (blk_new _ _) _
theorem WO_1 (w : World) : (WO w).heap[w.heap.size + 1]? = some (.cells #[.int .i64 0] 24 (0, 0)) := by
  have := blk_new (w.alloc (.cells #[.slice none 0 0] 22 (0, 0))) (.cells #[.int .i64 0] 24 (0, 0))
  rw [World.size_alloc] at this
  exact this
theorem WO_below (w : World) : Below w.heap.size w (WO w) := below_alloc (below_alloc (Below.refl _ _) _) _
/-- What is held from the first call on. -/
def OpenHeld (w W : World) (A1 : Option Addr) (c1 : Nat) (o : List Int) (v : Value) (e : Int) : Prop :=
  W.heap[w.heap.size]? = some (.cells #[v] 22 (0, 0)) ∧ W.heap[w.heap.size + 1]? = some (.cells #[.int .i64 e] 24 (0, 0)) ∧ Kd.R (Kd.int .u8) 5 W w.heap.size (fun _ => True) (.slice A1 o.length c1) o ∧ Below w.heap.size w W
theorem OpenHeld.below {w W W' : World} {A1 : Option Addr} {c1 : Nat} {o : List Int} {v : Value} {e : Int} (h : OpenHeld w W A1 c1 o v e) (hb : Below W.heap.size W W') : OpenHeld w W' A1 c1 o v e :=
  ⟨blk_below h.1 hb, blk_below h.2.1 hb, Kd.R_below h.2.2.1 hb, below_step h.2.2.2 hb⟩
theorem OpenHeld.drewN {w W : World} {A1 : Option Addr} {c1 : Nat} {o : List Int} {v : Value} {e : Int} (h : OpenHeld w W A1 c1 o v e) (n : Nat) : OpenHeld w (W.drewN n) A1 c1 o v e := h.below (pw_below_drewN (Below.refl _ _) n)
theorem OpenHeld.put0 {w W : World} {A1 : Option Addr} {c1 : Nat} {o : List Int} {v : Value} {e : Int} (h : OpenHeld w W A1 c1 o v e) (u : Value) : OpenHeld w (W.setCell ⟨w.heap.size, 0, none⟩ u) A1 c1 o u e :=
  ⟨blk_put (cs := #[v]) h.1 0 _ rfl, blk_far h.2.1 (by simp) _, Kd.R_set h.2.2.1 h.1 (by decide) 0 u, below_set h.2.2.2 (Nat.le_refl _)⟩
theorem OpenHeld.put1 {w W : World} {A1 : Option Addr} {c1 : Nat} {o : List Int} {v : Value} {e : Int} (h : OpenHeld w W A1 c1 o v e) (n : Int) : OpenHeld w (W.setCell ⟨w.heap.size + 1, 0, none⟩ (.int .i64 n)) A1 c1 o v n :=
  ⟨blk_far h.1 (by simp) _, blk_put (cs := #[.int .i64 e]) h.2.1 0 _ rfl, Kd.R_set h.2.2.1 h.2.1 (by decide) 0 _, below_set h.2.2.2 (Nat.le_succ _)⟩
def OpenPost (w0 : World) (r1 : List Int) (r2 : Int) (e : Ending) (w' : World) : Prop :=
  ∃ v0_ : Value, e = .returned (.tuple #[v0_, .int .i64 r2]) ∧ Kd.R (Kd.int .u8) 5 w' w0.heap.size (fun _ => True) v0_ r1 ∧ Below w0.heap.size w0 w'
set_option maxHeartbeats 3200000 in
theorem bytes_Open.few (A0 : Option Addr) (c0 : Nat) (l0 : List Int) (w : World) (h4 : l0.length < 4) :
    Calls Try.prog 12 #[.slice A0 l0.length c0] w (OpenPost w [] 16) := by
  have hmf : ∀ (fn : Fn) (first cap : Array Value) (w : World), (Instr.makeFunc fn first cap).run Try.prog w = .ok (.func fn first cap) w := fun _ _ _ _ => rfl
  have hw : wrap64 ((l0.length : Int) - 4) = (l0.length : Int) - 4 := by unfold wrap64; omega
  have k1 : decide ((l0.length : Int) - 4 < 0) = true := decide_eq_true (by omega)
  have k2 : decide ((l0.length : Int) < 4) = true := decide_eq_true (by omega)
  have k3 : decide (l0.length < 4) = true := decide_eq_true (by omega)
  clear h4
  go_enter_defers Try.func12, Try.ntmps12
  go_wp2
  refine leaves_cons (f := 28) (args := #[.pointer (some ⟨w.heap.size, 0, none⟩), .pointer (some ⟨w.heap.size + 1, 0, none⟩)]) (by simp) (by simp [go_sem]) ?_
  refine (Open1_caught w.heap.size (w.heap.size + 1) 16 (by decide) (.slice none 0 0) (.int .i64 0) [] w _ (b0 := by first | exact WO_0 w | exact blk_drewN (WO_0 w) _) (b1 := by first | exact WO_1 w | exact blk_drewN (WO_1 w) _) (by omega) (by omega) (by omega) (by first | exact WO_below w | exact pw_below_drewN (WO_below w) _)).mono ?_
  rintro e u' w4 ⟨rfl, rfl, h0, h1, hb4⟩
  have c0 : w4.cell? ⟨w.heap.size, 0, none⟩ = some (.slice none 0 0) := (blk_cell h0 0).trans rfl
  have c1 : w4.cell? ⟨w.heap.size + 1, 0, none⟩ = some (.int .i64 16) := (blk_cell h1 0).trans rfl
  exact ⟨.tuple #[.slice none 0 0, .int .i64 16], by simp [results, Try.results12, go_sem, c0, c1], _, rfl, Kd.R_nil _ _ _ _ _, hb4⟩
set_option maxHeartbeats 3200000 in
theorem bytes_Open.more (k : Nat) (A0 : Option Addr) (c0 : Nat) (l0 : List Int) (o s : List Int) (b : Bool) (w : World) (hr0 : Kd.C (Kd.int .u8) w A0 l0.length l0) (hc0 : l0.length ≤ c0) (h4 : 4 ≤ l0.length)
    (ho : slices_Clone_byte_byte.f (l0.take (l0.length - 4)) = some o) (hs : bytes_Seal.f k o = some s) (hb : slices_Equal_byte_byte.f k s l0 = some b) :
    Calls Try.prog 12 #[.slice A0 l0.length c0] w (OpenPost w (if b = true then o else []) (if b = true then 0 else 17)) := by
  have hmf : ∀ (fn : Fn) (first cap : Array Value) (w : World), (Instr.makeFunc fn first cap).run Try.prog w = .ok (.func fn first cap) w := fun _ _ _ _ => rfl
  have hmax := Kd.C_max hr0
  obtain ⟨p, hp⟩ : ∃ p : Nat, l0.length - 4 = p := ⟨_, rfl⟩
  rw [hp] at ho
  have hw : wrap64 ((l0.length : Int) - 4) = (p : Int) := by unfold wrap64; omega
  have k1 : decide ((p : Int) < 0) = false := decide_eq_false (by omega)
  have HR0 := Aside0.mk hr0
  have HC0 := Aside0.mk hc0
  obtain ⟨i0, hi0, _, hsz, _⟩ := info_parts info5
  obtain ⟨hcut, hA, hC⟩ := print_take_int (P := Try.prog) (k := .u8) 22 5 Try.underlying22 hi0 hsz A0 c0 l0 (p : Int) (by omega) (by omega) hc0
  rw [Int.toNat_natCast] at hcut hA hC
  have hr := Kd.C_of_reads (h1 := fun _ => rfl) (hA _ (Kd.reads_of_C hr0))
  clear hA
  generalize l0.take p = m at *
  have HM := Aside0.mk hr
  have HMC := Aside0.mk hC
  have HCL := Aside0.mk ho
  have HSE := Aside0.mk hs
  have HEQ := Aside0.mk hb
  clear hr hC ho hs hb hr0 hc0 hi0 hsz h4 hmax hp
  cases b with
  | true =>
    simp only [if_true]
    go_enter_defers Try.func12, Try.ntmps12
    go_wp2_with (first
      | (go_at_call 29; refine (slices_Clone_byte_byte.calls A0 c0 m o _ (Kd.C_below HM.out (by first | exact WO_below w | exact pw_below_drewN (WO_below w) _)) HMC.out HCL.out).mono ?_; rintro e w3 ⟨v0, rfl, ho, hb3⟩; obtain ⟨A1, c1, rfl, hl1, _⟩ := Kd.R_reads ho; have HL1 := Aside0.mk hl1; clear hl1; have H3 : Aside0 (OpenHeld w w3 A1 c1 o (.slice none 0 0) 0) := ⟨blk_below (by first | exact WO_0 w | exact blk_drewN (WO_0 w) _) hb3, blk_below (by first | exact WO_1 w | exact blk_drewN (WO_1 w) _) hb3, Kd.R_lower ho (below_size (by first | exact WO_below w | exact pw_below_drewN (WO_below w) _)), below_step (by first | exact WO_below w | exact pw_below_drewN (WO_below w) _) hb3⟩; clear ho hb3; have q0 : w3.cell? ⟨w.heap.size, 0, none⟩ = some (.slice none 0 0) := (blk_cell H3.out.1 0).trans rfl; have q1 := blk_frozen H3.out.1 0; have q2 := blk_lt H3.out.1; have H4 := Aside0.mk (H3.out.put0 (.slice A1 o.length c1)))
      | (go_at_call 21; refine (bytes_Seal.calls k A1 c1 o s _ (Kd.R_reads' H4.out.2.2.1).2.2 HL1.out HSE.out).mono ?_; rintro e w4 ⟨v1, rfl, ho4, hb4⟩; obtain ⟨A2, c2, rfl, hl2, hC2⟩ := Kd.R_reads ho4; have HL2 := Aside0.mk hl2; have HC2 := Aside0.mk hC2; clear hl2 hC2 ho4; have H5 := Aside0.mk (H4.out.below hb4); clear hb4)
      | (go_at_call 30; refine (slices_Equal_byte_byte.calls k A2 c2 s A0 c0 l0 _ _ HC2.out HL2.out (Kd.C_below HR0.out H5.out.2.2.2) HC0.out HEQ.out).mono ?_; rintro e w5 ⟨rfl, ⟨n5, rfl⟩⟩; have H6 := Aside0.mk (H5.out.drewN n5); have x0 : (w4.drewN n5).cell? ⟨w.heap.size, 0, none⟩ = some (.slice A1 o.length c1) := (blk_cell H6.out.1 0).trans rfl; have x1 := blk_frozen H6.out.1 0; have x2 := blk_lt H6.out.1; have x3 : (w4.drewN n5).cell? ⟨w.heap.size + 1, 0, none⟩ = some (.int .i64 0) := (blk_cell H6.out.2.1 0).trans rfl; have x4 := blk_frozen H6.out.2.1 0; have x5 := blk_lt H6.out.2.1))
    refine leaves_cons (f := 28) (args := #[.pointer (some ⟨w.heap.size, 0, none⟩), .pointer (some ⟨w.heap.size + 1, 0, none⟩)]) (by simp) (by simp [go_sem]) ?_
    refine (Open1_idle _ _ _).mono ?_
    rintro e u' w9 ⟨rfl, rfl, ⟨nd2, rfl⟩⟩
    have HF := ((H6.out.put0 (.slice A1 o.length c1)).put1 0).drewN nd2
    generalize (World.setCell (World.setCell _ _ _) _ _) = w8 at HF ⊢
    have c0 : (w8.drewN nd2).cell? ⟨w.heap.size, 0, none⟩ = some (.slice A1 o.length c1) := (blk_cell HF.1 0).trans rfl
    have c1_ : (w8.drewN nd2).cell? ⟨w.heap.size + 1, 0, none⟩ = some (.int .i64 0) := (blk_cell HF.2.1 0).trans rfl
    exact ⟨.tuple #[.slice A1 o.length c1, .int .i64 0], by simp [results, Try.results12, go_sem, c0, c1_], _, rfl, HF.2.2.1, HF.2.2.2⟩
  | false =>
    simp only [Bool.false_eq_true, if_false]
    go_enter_defers Try.func12, Try.ntmps12
    go_wp2_with (first
      | (go_at_call 29; refine (slices_Clone_byte_byte.calls A0 c0 m o _ (Kd.C_below HM.out (by first | exact WO_below w | exact pw_below_drewN (WO_below w) _)) HMC.out HCL.out).mono ?_; rintro e w3 ⟨v0, rfl, ho, hb3⟩; obtain ⟨A1, c1, rfl, hl1, _⟩ := Kd.R_reads ho; have HL1 := Aside0.mk hl1; clear hl1; have H3 : Aside0 (OpenHeld w w3 A1 c1 o (.slice none 0 0) 0) := ⟨blk_below (by first | exact WO_0 w | exact blk_drewN (WO_0 w) _) hb3, blk_below (by first | exact WO_1 w | exact blk_drewN (WO_1 w) _) hb3, Kd.R_lower ho (below_size (by first | exact WO_below w | exact pw_below_drewN (WO_below w) _)), below_step (by first | exact WO_below w | exact pw_below_drewN (WO_below w) _) hb3⟩; clear ho hb3; have q0 : w3.cell? ⟨w.heap.size, 0, none⟩ = some (.slice none 0 0) := (blk_cell H3.out.1 0).trans rfl; have q1 := blk_frozen H3.out.1 0; have q2 := blk_lt H3.out.1; have H4 := Aside0.mk (H3.out.put0 (.slice A1 o.length c1)))
      | (go_at_call 21; refine (bytes_Seal.calls k A1 c1 o s _ (Kd.R_reads' H4.out.2.2.1).2.2 HL1.out HSE.out).mono ?_; rintro e w4 ⟨v1, rfl, ho4, hb4⟩; obtain ⟨A2, c2, rfl, hl2, hC2⟩ := Kd.R_reads ho4; have HL2 := Aside0.mk hl2; have HC2 := Aside0.mk hC2; clear hl2 hC2 ho4; have H5 := Aside0.mk (H4.out.below hb4); clear hb4)
      | (go_at_call 30; refine (slices_Equal_byte_byte.calls k A2 c2 s A0 c0 l0 _ _ HC2.out HL2.out (Kd.C_below HR0.out H5.out.2.2.2) HC0.out HEQ.out).mono ?_; rintro e w5 ⟨rfl, ⟨n5, rfl⟩⟩; have H6 := Aside0.mk (H5.out.drewN n5); have x0 : (w4.drewN n5).cell? ⟨w.heap.size, 0, none⟩ = some (.slice A1 o.length c1) := (blk_cell H6.out.1 0).trans rfl; have x1 := blk_frozen H6.out.1 0; have x2 := blk_lt H6.out.1; have x3 : (w4.drewN n5).cell? ⟨w.heap.size + 1, 0, none⟩ = some (.int .i64 0) := (blk_cell H6.out.2.1 0).trans rfl; have x4 := blk_frozen H6.out.2.1 0; have x5 := blk_lt H6.out.2.1))
    refine leaves_cons (f := 28) (args := #[.pointer (some ⟨w.heap.size, 0, none⟩), .pointer (some ⟨w.heap.size + 1, 0, none⟩)]) (by simp) (by simp [go_sem]) ?_
    refine (Open1_caught w.heap.size (w.heap.size + 1) 17 (by decide) (.slice A1 o.length c1) (.int .i64 0) [] w _ (b0 := H6.out.1) (b1 := H6.out.2.1) (by omega) (by omega) (by omega) H6.out.2.2.2).mono ?_
    rintro e u' w9 ⟨rfl, rfl, h0, h1, hb4⟩
    have c0 : w9.cell? ⟨w.heap.size, 0, none⟩ = some (.slice none 0 0) := (blk_cell h0 0).trans rfl
    have c1_ : w9.cell? ⟨w.heap.size + 1, 0, none⟩ = some (.int .i64 17) := (blk_cell h1 0).trans rfl
    exact ⟨.tuple #[.slice none 0 0, .int .i64 17], by simp [results, Try.results12, go_sem, c0, c1_], _, rfl, Kd.R_nil _ _ _ _ _, hb4⟩
theorem bytes_Open.calls (k : Nat) (A0 : Option Addr) (c0 : Nat) (l0 : List Int) (r1 : List Int) (r2 : Int) (w : World) (hr0 : Kd.C (Kd.int .u8) w A0 l0.length l0) (hc0 : l0.length ≤ c0) (h : bytes_Open.f k l0 = some (r1, r2)) :
    Calls Try.prog 12 #[.slice A0 l0.length c0] w fun e w' => ∃ v0_ : Value, e = .returned (.tuple #[v0_, .int .i64 r2]) ∧ Kd.R (Kd.int .u8) 5 w' w.heap.size (fun _ => True) v0_ r1 ∧ Below w.heap.size w w' := by
  unfold bytes_Open.f at h
  by_cases h4 : (l0.length : Int) < 4
  · rw [if_pos h4] at h
    simp only [Option.some.injEq, Prod.mk.injEq] at h
    obtain ⟨rfl, rfl⟩ := h
    exact bytes_Open.few A0 c0 l0 w (by omega)
  · rw [if_neg h4] at h
    cases ho : slices_Clone_byte_byte.f (l0.take (l0.length - 4)) with
    | none => rw [ho] at h; cases h
    | some o =>
      rw [ho, Option.bind_some] at h
      cases hs : bytes_Seal.f k o with
      | none => rw [hs] at h; cases h
      | some s =>
        rw [hs, Option.bind_some] at h
        cases hb : slices_Equal_byte_byte.f k s l0 with
        | none => rw [hb] at h; cases h
        | some b =>
          rw [hb, Option.bind_some] at h
          have := bytes_Open.more k A0 c0 l0 o s b w hr0 hc0 (by omega) ho hs hb
          cases b
          · simp only [Bool.false_eq_true, if_false, Option.some.injEq, Prod.mk.injEq] at h this
            obtain ⟨rfl, rfl⟩ := h
            exact this
          · simp only [if_true, Option.some.injEq, Prod.mk.injEq] at h this
            obtain ⟨rfl, rfl⟩ := h
            exact this

end Go.Proofs.Ytncgbkmhigdflaa.P
