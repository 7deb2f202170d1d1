-- Written by this session's own program wip/gen.py; Lean checks it.
import Derived.Test.YtilldpmlcgikdaaPx0
import Derived.Test.YtilldpmlcgikdaaPx20
import Derived.Test.YtilldpmlcgikdaaPx21
import Derived.Test.YtilldpmlcgikdaaLexSpec
import Derived.Test.YtilldpmlcgikdaaBase
import Derived.Test.YtilldpmlcgikdaaPx21
import Derived.Test.YtilldpmlcgikdaaPx20
import Derived.WalkLawsBesides
import Derived.Recover
import Derived.Defers
import Derived.RegionTactic
namespace Go.Proofs.Ytilldpmlcgikdaa.P
open Go.RowKit Go.Proofs.YtilldpmlcgikdaaW.PrintWords Go.Proofs.YtilldpmlcgikdaaW.PrintLast Go.Proofs.YtilldpmlcgikdaaW.PrintMore
attribute [local go_sem] max2_int min2_int max_two min_two max_three min_three max_four min_four   -- for this text's walks alone
set_option linter.unusedVariables false
set_option linter.unusedSimpArgs false

/-! ### lex_Tokens: function 15 -/
-- import Derived.Test.YtilldpmlcgikdaaLexSpec
-- import Derived.Test.YtilldpmlcgikdaaBase
-- import Derived.Test.YtilldpmlcgikdaaPx21
-- import Derived.Test.YtilldpmlcgikdaaPx20
-- import Derived.WalkLawsBesides
-- import Derived.Recover
-- import Derived.Defers
-- import Derived.RegionTactic
open Go.Proofs.Ytilldpmlcgikdaa.Base
theorem lex_Tokens1.idle (pl pf : Addr) (w : World) :
    CallsD Try.prog 19 #[.pointer (some pl), .pointer (some pf)] .returning w fun e u' w' => e = .returned (.tuple #[]) ∧ u' = .returning ∧ w' = w := by
  refine callsD_of_wpS Try.func19 rfl fun c₀ cs hu => ?_
  apply wpS_seq
  apply wpS_region
  simp [wpOpsS, go_sem, recoverD, hu, Try.ntmps19, Exit.thenS]
  apply wpS_seq
  apply wpS_region
  simp [wpOpsS, go_sem, Exit.thenS]
  refine wpS_cond (t := false) (by simp [Act.eval, Array.replicate]) ?_
  simp only [Bool.false_eq_true, if_false]
  refine wpS_of_wp (wp_skip ?_)
  cases c₀
  simp_all [bodyPostS, results, Try.results19]
theorem assert_wrong (x : Value) (w : World) : (Instr.typeAssert (.iface 56 x) 20 56 true).run Try.prog w = .ok (.tuple #[x, .bool true]) w := by kernel_rfl
/-- The end of a piece of code: it goes on. -/
def Goes (R : Act → World → Prop) : Exit → Act → World → Prop
  | .normal, a, w => R a w
  | _, _, _ => False
def CatchEnd (gl gf : Nat) (at_ : Int) (w0 : World) (w' : World) : Prop :=
  w'.heap[gl]? = some (.cells #[.slice none 0 0] 22 (0, 0)) ∧ w'.heap[gf]? = some (.cells #[.int .i64 11, .int .i64 at_] 28 (0, 0))
set_option maxHeartbeats 1000000 in
theorem lex_Tokens1.caught (gl gf : Nat) (at_ : Int) (u : Value) (older : List PanicEntry) (w0 w : World) (hl : w.heap[gl]? = some (.cells #[u] 22 (0, 0))) (hf : w.heap[gf]? = some (.cells #[.int .i64 0, .int .i64 0] 28 (0, 0)))
    (h1 : w0.heap.size ≤ gl) (h2 : w0.heap.size ≤ gf) (HB : Below w0.heap.size w0 w) :
    CallsD Try.prog 19 #[.pointer (some ⟨gl, 0, none⟩), .pointer (some ⟨gf, 0, none⟩)] (.panicking ({ v := .iface 56 (.agg #[.int .i64 at_]), recovered := false } :: older)) w fun e u' w' =>
      e = .returned (.tuple #[]) ∧ u' = .panicking ({ v := .iface 56 (.agg #[.int .i64 at_]), recovered := true } :: older) ∧ CatchEnd gl gf at_ w0 w' ∧ Below w0.heap.size w0 w' := by
  have hne : gl ≠ gf := blk_ne hl hf (by decide)
  have c0 : w.cell? ⟨gl, 0, none⟩ = some u := (blk_cell hl 0).trans rfl
  have c1 : w.cell? ⟨gf, 0, none⟩ = some (.int .i64 0) := (blk_cell hf 0).trans rfl
  have c2 : w.cell? ⟨gf, 1, none⟩ = some (.int .i64 0) := (blk_cell hf 1).trans rfl
  have f0 := blk_frozen hl 0
  have f1 := blk_frozen hf 0
  have f2 := blk_frozen hf 1
  have ll := blk_lt hl
  have lf := blk_lt hf
  have HL := Aside0.mk hl
  have HF := Aside0.mk hf
  clear hl hf
  refine callsD_of_wpS Try.func19 rfl fun c₀ cs hu => ?_
  simp only [Try.ntmps19, List.size_toArray, List.length_cons, List.length_nil, Nat.reduceAdd, Nat.reduceSub, Array.replicate_succ, Array.replicate_zero, List.push_toArray, List.append_toArray, List.nil_append, List.cons_append]
  apply wpS_seq
  apply wpS_region
  simp [wpOpsS, go_sem, recoverD, hu, Exit.thenS]
  refine wpS_of_wp (wp_mono (Q := Goes fun a' w' => a'.defers = [] ∧ CatchEnd gl gf at_ w0 w' ∧ Below w0.heap.size w0 w') ?_ ?_)
  · clear hu
    have hta := fun W => assert_wrong (.agg #[.int .i64 at_]) W
    go_wp2
    go_region
    all_goals
      refine ⟨rfl, ⟨?_, ?_⟩, ?_⟩
      · with_reducible repeat (first | exact HL.out | (refine blk_drew ?_) | (refine blk_drewN ?_ _) | (refine blk_alloc ?_ _))
        refine blk_far ?_ hne _
        refine blk_far ?_ hne _
        exact blk_put HL.out 0 _ rfl
      · with_reducible repeat (first | exact HF.out | (refine blk_drew ?_) | (refine blk_drewN ?_ _) | (refine blk_alloc ?_ _))
        refine blk_put (cs := #[.int .i64 11, .int .i64 0]) ?_ 1 _ rfl
        refine blk_put (cs := #[.int .i64 0, .int .i64 0]) ?_ 0 _ rfl
        exact blk_far HF.out (Ne.symm hne) _
      · with_reducible repeat (first | exact HB | apply below_alloc | apply pw_below_drewN | apply below_drew1 | (refine below_set ?_ h1) | (refine below_set ?_ h2))
  · intro e a' w' h
    cases e <;> simp only [Goes] at h
    obtain ⟨hd, hc, hb⟩ := h
    cases c₀
    simp_all [bodyPostS, results, Try.results19]
def tok (t : Int × ByteArray × Int) : S38 := ⟨t.1, t.2.1, t.2.2⟩
def lex_Tokens.f (a0 : ByteArray) : Option (List S38 × Int × Int) :=
  if 2000 < a0.size then some ([], 14, 0) else
  match LexSpec.tokens a0 with
  | .ok l => some (l.map tok, 0, 0)
  | .error i => some ([], 11, (i : Int))
def TokensPost (w0 : World) (r1 : List S38) (r2 r3 : Int) (e : Ending) (w' : World) : Prop :=
  ∃ v0_ : Value, e = .returned (.tuple #[v0_, .agg #[.int .i64 r2, .int .i64 r3]]) ∧ Kd.R k38 38 w' w0.heap.size (fun _ => True) v0_ r1 ∧ Below w0.heap.size w0 w'
set_option maxHeartbeats 1600000 in
theorem lex_Tokens.long (a0 : ByteArray) (w : World) (h : 2000 < a0.size) :
    Calls Try.prog 15 #[.string a0] w (TokensPost w [] 14 0) := by
  have hmf : ∀ (fn : Fn) (first cap : Array Value) (w : World), (Instr.makeFunc fn first cap).run Try.prog w = .ok (.func fn first cap) w := fun _ _ _ _ => rfl
  have b0 : decide (2000 < (a0.size : Int)) = true := decide_eq_true (by omega)
  have b1 : decide (2000 < a0.size) = true := decide_eq_true (by omega)
  clear h
  go_enter_defers Try.func15, Try.ntmps15
  go_wp2
  refine ⟨.tuple #[.slice none 0 0, .agg #[.int .i64 14, .int .i64 0]], by simp [results, Try.results15, go_sem], ⟨_, rfl, Kd.R_nil _ _ _ _ _, ?_⟩⟩
  with_reducible repeat (first | exact Below.refl _ _ | apply below_alloc | apply pw_below_drewN | apply below_drew1)
/-- A row of tokens stays, whatever is stored into two variables of other types. -/
theorem R_two {W W' : World} {base gl gf : Nat} {v : Value} {xs : List S38} {cs1 cs2 : Array Value} {t1 t2 : Nat} (h : Kd.R k38 38 W base (fun _ => True) v xs) (b1 : W.heap[gl]? = some (.cells cs1 t1 (0, 0))) (b2 : W.heap[gf]? = some (.cells cs2 t2 (0, 0))) (h1 : 38 ≠ t1) (h2 : 38 ≠ t2)
    (hm : ∀ b, b ≠ gl → b ≠ gf → b < W.heap.size → W'.heap[b]? = W.heap[b]?) : Kd.R k38 38 W' base (fun _ => True) v xs :=
  Kd.R_mono (Kd.R_step (Kd.R_types (Kd.R_types h b1 (fun q hq => by have : q = 38 := List.mem_singleton.1 hq; omega)) b2 (fun q hq => by have : q = 38 := List.mem_singleton.1 hq; omega)) (fun k hk hl => hm k hk.1.2 hk.2 hl)) (fun _ _ => trivial)
theorem set3 (W : World) (gl gf : Nat) (u x y : Value) (b : Nat) (h1 : b ≠ gl) (h2 : b ≠ gf) : (((W.setCell ⟨gl, 0, none⟩ u).setCell ⟨gf, 0, none⟩ x).setCell ⟨gf, 1, none⟩ y).heap[b]? = W.heap[b]? := by
  rw [Below.heap_setCell _ _ _ _ h2, Below.heap_setCell _ _ _ _ h2, Below.heap_setCell _ _ _ _ h1]
def TokensEnd (w0 : World) (r : Except Nat (List (Int × ByteArray × Int))) : Ending → World → Prop :=
  match r with
  | .ok l => TokensPost w0 (l.map tok) 0 0
  | .error i => TokensPost w0 [] 11 (i : Int)
set_option maxHeartbeats 3200000 in
theorem lex_Tokens.main (a0 : ByteArray) (w : World) (hs : a0.size ≤ 2000) (r : Except Nat (List (Int × ByteArray × Int))) (hr : LexSpec.tokens a0 = r) :
    Calls Try.prog 15 #[.string a0] w (TokensEnd w r) := by
  have hmf : ∀ (fn : Fn) (first cap : Array Value) (w : World), (Instr.makeFunc fn first cap).run Try.prog w = .ok (.func fn first cap) w := fun _ _ _ _ => rfl
  have b0 : decide (2000 < (a0.size : Int)) = false := decide_eq_false (by omega)
  have b1 : decide (2000 < a0.size) = false := decide_eq_false (by omega)
  have HR := Aside0.mk hr
  clear hr
  go_enter_defers Try.func15, Try.ntmps15
  go_wp2_with (first | (go_at_call 20; refine (lex_skipped.calls a0 _ _ (lex_skipped.of a0 (by omega))).mono ?_; rintro e w' ⟨rfl, ⟨nd, rfl⟩⟩))
  go_loopw [4] (fun v4 w' => ∃ (i k : Nat) (acc : List (Int × ByteArray × Int)) (u : Value), v4 = .int .i64 (i : Int) ∧ i ≤ a0.size ∧ Aside0 (a0.size - i < k) ∧ Aside0 (LexSpec.joined acc (LexSpec.toks a0 k i) = r) ∧ Aside0 (acc.length ≤ i) ∧ Aside0 (Kd.R k38 38 w' w.heap.size (fun _ => True) u (acc.map tok)) ∧ Aside0 (w'.heap[w.heap.size]? = some (.cells #[u] 22 (0, 0))) ∧ Aside0 (w'.heap[w.heap.size + 1]? = some (.cells #[.int .i64 0, .int .i64 0] 28 (0, 0))) ∧ Aside0 (Below w.heap.size w w')) (fun v4 _ => a0.size - (intOf v4).toNat)
  case atStart =>
    have hle := LexSpec.skip_le false (bytesOf a0)
    rw [bytesOf_length] at hle
    refine ⟨_, a0.size + 1, [], .slice none 0 0, rfl, hle, ⟨by omega⟩, ⟨?_⟩, ⟨by simp⟩, ⟨Kd.R_nil _ _ _ _ _⟩, ⟨?_⟩, ⟨?_⟩, ⟨?_⟩⟩
    · have := HR.out; unfold LexSpec.tokens at this; rw [this]; cases r <;> simp [LexSpec.joined]
    · exact blk_drewN (blk_alloc (blk_new _ _) _) _
    · have := blk_new (w.alloc (.cells #[.slice none 0 0] 22 (0, 0))) (.cells #[.int .i64 0, .int .i64 0] 28 (0, 0))
      simp at this ⊢
      exact this
    · with_reducible repeat (first | exact Below.refl _ _ | apply below_alloc | apply pw_below_drewN | apply below_drew1)
  case round =>
    obtain ⟨i, k, acc, u, rfl, hi, HK, HJ, HAL, HO, BL, BF, HB⟩ := hrel
    obtain ⟨k, rfl⟩ : ∃ m, k = m + 1 := ⟨k - 1, by have := HK.out; omega⟩
    by_cases hlt : i < a0.size
    · cases ht : LexSpec.token ((bytesOf a0).drop i) with
      | none =>
        have hrr : LexSpec.joined acc (LexSpec.toks a0 (k + 1) i) = .error i := by simp only [LexSpec.toks, if_pos hlt, ht, LexSpec.joined]
        rw [HJ.out] at hrr
        subst hrr
        have k1 : decide ((i : Int) < (a0.size : Int)) = true := decide_eq_true (by omega)
        have k2 : decide (i < a0.size) = true := decide_eq_true (by omega)
        have HT : ∀ W, Aside0 (Calls Try.prog 21 #[.string (a0.extract i a0.size), .int .i64 (i : Int)] W fun e w' => e = .panicked [{ v := .iface 56 (.agg #[.int .i64 (i : Int)]), recovered := false }] ∧ Below W.heap.size W w') := fun W => ⟨by
          refine lex_token.none_ _ _ W (by rw [size_tail]; omega) (by rw [size_tail]; omega) ?_
          rwa [bytesOf_tail]⟩
        clear ht
        go_wp2_with (first | (go_at_call 21; refine ((HT _).out).mono ?_; rintro e w3 ⟨rfl, hb3⟩))
        have hl3 := blk_below BL.out hb3
        have hf3 := blk_below BF.out hb3
        refine leaves_cons (f := 19) (args := #[.pointer (some ⟨w.heap.size, 0, none⟩), .pointer (some ⟨w.heap.size + 1, 0, none⟩)]) (by simp) (by simp [go_sem]) ?_
        refine (lex_Tokens1.caught w.heap.size (w.heap.size + 1) (i : Int) u [] w _ hl3 hf3 (Nat.le_refl _) (Nat.le_succ _) (below_step HB.out hb3)).mono ?_
        rintro e u' w4 ⟨rfl, rfl, ⟨hc1, hc2⟩, hb4⟩
        have c0 : w4.cell? ⟨w.heap.size, 0, none⟩ = some (.slice none 0 0) := (blk_cell hc1 0).trans rfl
        have c1 : w4.cell? ⟨w.heap.size + 1, 0, none⟩ = some (.int .i64 11) := (blk_cell hc2 0).trans rfl
        have c2 : w4.cell? ⟨w.heap.size + 1, 1, none⟩ = some (.int .i64 (i : Int)) := (blk_cell hc2 1).trans rfl
        refine ⟨.tuple #[.slice none 0 0, .agg #[.int .i64 11, .int .i64 (i : Int)]], by simp [results, Try.results15, go_sem, c0, c1, c2], ⟨_, rfl, Kd.R_nil _ _ _ _ _, hb4⟩⟩
      | some q =>
        obtain ⟨kd, a, b, n⟩ := q
        have hts := LexSpec.token_some _ _ _ _ _ ht
        rw [List.length_drop, bytesOf_length] at hts
        have hst := LexSpec.joined_step a0 k i acc kd a b n hlt ht
        have k1 : decide ((i : Int) < (a0.size : Int)) = true := decide_eq_true (by omega)
        have k2 : decide (i < a0.size) = true := decide_eq_true (by omega)
        have hn1 : 1 ≤ n := hts.1
        have hn2 : i + n ≤ a0.size := by omega
        have HT : ∀ W, Aside0 (Calls Try.prog 21 #[.string (a0.extract i a0.size), .int .i64 (i : Int)] W fun e w' => e = .returned (.tuple #[.agg #[.int .i64 kd, .string (a0.extract (i + a) (i + b)), .int .i64 (i : Int)], .int .i64 n]) ∧ Below W.heap.size W w') := fun W => ⟨by
          have := lex_token.some_ (a0.extract i a0.size) (i : Int) W (by rw [size_tail]; omega) (by rw [size_tail]; omega) kd a b n (by rwa [bytesOf_tail])
          rwa [extract_extract a0 i a b (by omega) (by omega)] at this⟩
        have hsk := LexSpec.skip_le false ((bytesOf a0).drop (i + n))
        rw [List.length_drop, bytesOf_length] at hsk
        have HS : ∀ W, Aside0 (Calls Try.prog 20 #[.string (a0.extract (i + n) a0.size)] W fun e w' => e = .returned (.int .i64 (LexSpec.skip false ((bytesOf a0).drop (i + n)) : Int)) ∧ Drawn0 W w') := fun W => ⟨by
          have := lex_skipped.calls (a0.extract (i + n) a0.size) _ W (lex_skipped.of _ (by rw [size_tail]; omega))
          rwa [bytesOf_tail] at this⟩
        generalize hm : LexSpec.skip false ((bytesOf a0).drop (i + n)) = m at *
        rw [HJ.out] at hst
        have HST := Aside0.mk hst
        clear ht hst hts hm
        have hal : (acc.map tok).length ≤ 2000 := by rw [List.length_map]; have := HAL.out; omega
        have HAC := Aside0.mk hal
        clear hal
        have hgb : w.heap.size ≤ wr.heap.size := below_size HB.out
        go_wp2_with (first
          | (go_at_call 21; refine ((HT _).out).mono ?_; rintro e w3 ⟨rfl, hb3⟩; have BL3 := Aside0.mk (blk_below BL.out hb3); have BF3 := Aside0.mk (blk_below BF.out hb3); have HO3 := Aside0.mk (Kd.R_below HO.out hb3); have HB3 := Aside0.mk (below_step HB.out hb3); have c0 : w3.cell? ⟨w.heap.size, 0, none⟩ = some u := (blk_cell BL3.out 0).trans rfl; have f0 := blk_frozen BL3.out 0; have ll := blk_lt BL3.out; have hg3 : w.heap.size ≤ w3.heap.size := below_size HB3.out; clear hb3)
          | ((with_reducible refine gate_builtin (b := .append) (xs := #[.tmp 32, .tmp 34]) rfl ?_); at_builtin; (refine Kd.R_append k38 (w0 := w) w.heap.size rfl (.tmp 32) (.tmp 34) 22 38 (.agg #[(.int .i64 0), (.string ⟨#[]⟩), (.int .i64 0)]) 32 rfl Try.underlying22 info38 rfl (by decide) (by omega) u (acc.map tok) (tok (kd, a0.extract (i + a) (i + b), (i : Int))) [.int .i64 kd, .string (a0.extract (i + a) (i + b)), .int .i64 (i : Int)] (fun _ => True) (fun _ => False) rfl ?aX ?aP (fun _ hk => hk.elim) ?aF ?aO ?aB ?aS ?aL ?_); (case aX => simp [Act.eval]); (case aP => exact k38_mkM _ _ _ (tok (kd, a0.extract (i + a) (i + b), (i : Int)))); (case aF => exact (fun _ _ => trivial)); (case aO => exact Kd.R_alloc HO3.out _); (case aB => exact below_alloc HB3.out _); (case aS => exact (by simp; omega)); (case aL => have := HAC.out; omega); intro v1 w5 ho hb hg hat; have BL5 := Aside0.mk (blk_grown (blk_alloc BL3.out _) hg (Kd.R_ne HO3.out BL3.out (by decide))); have BF5 := Aside0.mk (blk_grown (blk_alloc BF3.out _) hg (Kd.R_ne HO3.out BF3.out (by decide))); have HO5 := Aside0.mk ho; have HB5 := Aside0.mk hb; clear ho hb hg hat; obtain ⟨Ao, co, eo⟩ := Kd.R_slice HO5.out; subst eo; have c5 : w5.cell? ⟨w.heap.size, 0, none⟩ = some u := (blk_cell BL5.out 0).trans rfl; have f5 := blk_frozen BL5.out 0; have l5 := blk_lt BL5.out)
          | (go_at_call 20; refine ((HS _).out).mono ?_; rintro e w' ⟨rfl, ⟨nd, rfl⟩⟩))
        go_roundw
        case rel =>
          have h5 : Kd.R k38 38 w5 w.heap.size (fun _ => True) (.slice Ao (acc.length + 1) co) (acc.map tok ++ [tok (kd, a0.extract (i + a) (i + b), (i : Int))]) := by
            have := HO5.out
            rwa [show (acc.map tok ++ [tok (kd, a0.extract (i + a) (i + b), (i : Int))]).length = acc.length + 1 from by simp] at this
          refine ⟨i + n + m, k, acc ++ [(kd, a0.extract (i + a) (i + b), (i : Int))], .slice Ao (acc.length + 1) co, by go_num, by omega, ⟨by have := HK.out; omega⟩, ⟨HST.out.symm⟩, ⟨by have := HAL.out; simp; omega⟩, ⟨?_⟩, ⟨?_⟩, ⟨?_⟩, ⟨?_⟩⟩
          rotate_left
          · exact blk_drewN (blk_put BL5.out 0 _ rfl) _
          · exact blk_drewN (blk_far BF5.out (by simp) _) _
          · exact pw_below_drewN (below_set HB5.out (Nat.le_refl _)) _
          · rw [List.map_append]
            exact Kd.R_drewN (Kd.R_mono (Kd.R_far (p := ⟨w.heap.size, 0, none⟩) (Kd.R_types h5 BL5.out (by decide)) (fun _ hk => hk.2) _) (fun _ _ => trivial)) _
        case measure => simp [intOf]; omega
    · have hie : i = a0.size := by omega
      have hrr : LexSpec.joined acc (LexSpec.toks a0 (k + 1) i) = .ok acc := by simp only [LexSpec.toks, if_neg hlt, LexSpec.joined, List.append_nil]
      rw [HJ.out] at hrr
      subst hrr
      have k1 : decide ((i : Int) < (a0.size : Int)) = false := decide_eq_false (by omega)
      have k2 : decide (i < a0.size) = false := decide_eq_false (by omega)
      have c0 : wr.cell? ⟨w.heap.size, 0, none⟩ = some u := (blk_cell BL.out 0).trans rfl
      have c1 : wr.cell? ⟨w.heap.size + 1, 0, none⟩ = some (.int .i64 0) := (blk_cell BF.out 0).trans rfl
      have c2 : wr.cell? ⟨w.heap.size + 1, 1, none⟩ = some (.int .i64 0) := (blk_cell BF.out 1).trans rfl
      have f0 := blk_frozen BL.out 0
      have f1 := blk_frozen BF.out 0
      have f2 := blk_frozen BF.out 1
      clear hie hlt
      obtain ⟨A, c, hu, hlc, hC⟩ := Kd.R_reads HO.out
      subst hu
      go_wp2
      refine leaves_cons (f := 19) (args := #[.pointer (some ⟨w.heap.size, 0, none⟩), .pointer (some ⟨w.heap.size + 1, 0, none⟩)]) (by simp) (by simp [go_sem]) ?_
      refine (lex_Tokens1.idle _ _ _).mono ?_
      rintro e u' w'' ⟨rfl, rfl, rfl⟩
      refine ⟨.tuple #[.slice A (acc.map tok).length c, .agg #[.int .i64 0, .int .i64 0]], by simp [results, Try.results15, go_sem, c0, c1, c2, f0, f1, f2], ⟨_, rfl, ?_, ?_⟩⟩
      · have hm := fun b h1 h2 (_ : b < wr.heap.size) => set3 wr w.heap.size (w.heap.size + 1) (.slice A acc.length c) (.int .i64 0) (.int .i64 0) b h1 h2
        exact R_two HO.out BL.out BF.out (by decide) (by decide) hm
      · have h1 : w.heap.size ≤ w.heap.size := Nat.le_refl _
        have h2 : w.heap.size ≤ w.heap.size + 1 := Nat.le_succ _
        with_reducible repeat (first | exact HB.out | apply below_alloc | apply pw_below_drewN | apply below_drew1 | (refine below_set ?_ h1) | (refine below_set ?_ h2))
theorem lex_Tokens.calls (a0 : ByteArray) (r1 : List S38) (r2 : Int) (r3 : Int) (w : World) (h : lex_Tokens.f a0 = some (r1, r2, r3)) :
    Calls Try.prog 15 #[.string a0] w fun e w' => ∃ v0_ : Value, e = .returned (.tuple #[v0_, .agg #[.int .i64 r2, .int .i64 r3]]) ∧ Kd.R k38 38 w' w.heap.size (fun _ => True) v0_ r1 ∧ Below w.heap.size w w' := by
  unfold lex_Tokens.f at h
  by_cases hs : 2000 < a0.size
  · rw [if_pos hs] at h
    simp only [Option.some.injEq, Prod.mk.injEq] at h
    obtain ⟨rfl, rfl, rfl⟩ := h
    exact lex_Tokens.long a0 w hs
  · rw [if_neg hs] at h
    have := lex_Tokens.main a0 w (by omega) _ rfl
    unfold TokensEnd at this
    split at h
    · rename_i l hl
      simp only [Option.some.injEq, Prod.mk.injEq] at h
      obtain ⟨rfl, rfl, rfl⟩ := h
      rw [hl] at this
      exact this
    · rename_i l hl
      simp only [Option.some.injEq, Prod.mk.injEq] at h
      obtain ⟨rfl, rfl, rfl⟩ := h
      rw [hl] at this
      exact this

end Go.Proofs.Ytilldpmlcgikdaa.P
