-- Written by this session's own program wip/gen.py; Lean checks it.
import Derived.Test.YtilldpmlcgikdaaPx0
import Derived.Test.YtilldpmlcgikdaaPx20
import Derived.Test.YtilldpmlcgikdaaPx24
import Derived.Test.YtilldpmlcgikdaaPx28
import Derived.Test.YtilldpmlcgikdaaPx30
import Derived.Test.YtilldpmlcgikdaaPx31
import Derived.Test.YtilldpmlcgikdaaLexSpec
import Derived.Test.YtilldpmlcgikdaaBase
import Derived.Test.YtilldpmlcgikdaaPx28
import Derived.Test.YtilldpmlcgikdaaPx30
import Derived.Test.YtilldpmlcgikdaaPx31
import Derived.WalkLawsBesides
import Derived.Deep.RegionWith
namespace Go.Proofs.Ytilldpmlcgikdaa.P
open Go.RowKit Go.Proofs.YtilldpmlcgikdaaW.PrintWords Go.Proofs.YtilldpmlcgikdaaW.PrintLast Go.Proofs.YtilldpmlcgikdaaW.PrintMore
attribute [local go_sem] max2_int min2_int max_two min_two max_three min_three max_four min_four   -- for this text's walks alone
set_option linter.unusedVariables false
set_option linter.unusedSimpArgs false

/-! ### lex_token: function 21 -/
-- import Derived.Test.YtilldpmlcgikdaaLexSpec
-- import Derived.Test.YtilldpmlcgikdaaBase
-- import Derived.Test.YtilldpmlcgikdaaPx28
-- import Derived.Test.YtilldpmlcgikdaaPx30
-- import Derived.Test.YtilldpmlcgikdaaPx31
-- import Derived.WalkLawsBesides
-- import Derived.Deep.RegionWith
open Go.Proofs.Ytilldpmlcgikdaa.Base
theorem lex_signs.is (c : Int) (w : World) : Calls Try.prog 31 #[.int .u8 c] w fun e w' => e = .returned (.int .i64 (LexSpec.sign c)) ∧ Drawn0 w w' := by
  refine lex_signs.calls c _ w ?_
  unfold lex_signs.f LexSpec.sign
  by_cases h1 : c = 61 <;> by_cases h2 : c = 124 <;> by_cases h3 : c = 59 <;> simp [*]
set_option maxHeartbeats 1600000 in
theorem lex_token.name_yes (s : ByteArray) (at_ : Int) (w : World) (hs : s.size ≤ 2000) (h0 : 0 < s.size) (hl : LexSpec.letter ((s[0]'h0).toNat : Int) = true) (n : Nat) (hn : LexSpec.run LexSpec.inner (bytesOf s) = n) (hi : LexSpec.isName ((bytesOf s).take n) = true) :
    Calls Try.prog 21 #[.string s, .int .i64 at_] w fun e w' => e = .returned (.tuple #[.agg #[.int .i64 1, .string (s.extract 0 n), .int .i64 at_], .int .i64 n]) ∧ Below w.heap.size w w' := by
  have hle : n ≤ s.size := by rw [← hn, ← bytesOf_length]; exact LexSpec.run_le _ _
  have HL := Aside0.mk hl
  have HN : ∀ W, Aside0 (Calls Try.prog 24 #[.string s, .func (.func 27) #[] #[]] W fun e w' => e = .returned (.int .i64 n) ∧ Drawn0 W w') := fun W => ⟨by
    have := lex_run.inner_ s W (by omega); rwa [hn] at this⟩
  have HI : ∀ W, Aside0 (Calls Try.prog 28 #[.string (s.extract 0 n)] W fun e w' => e = .returned (.bool true) ∧ Drawn0 W w') := fun W => ⟨by
    have hz : (s.extract 0 n).size ≤ 4611686018427387904 := by rw [size_extract _ _ _ hle]; omega
    have := lex_IsName.calls (s.extract 0 n) _ W (lex_IsName.of _ hz)
    rwa [bytesOf_head, hi] at this⟩
  clear hl hn hi
  go_enter Try.func21, Try.ntmps21
  go_wp2_with (first | (go_at_call 26; refine (lex_letter.is _ _).mono ?_; rintro e w' ⟨rfl, ⟨nd, rfl⟩⟩; rw [HL.out]) | (go_at_call 24; refine ((HN _).out).mono ?_; rintro e w' ⟨rfl, ⟨nd, rfl⟩⟩) | (go_at_call 28; refine ((HI _).out).mono ?_; rintro e w' ⟨rfl, ⟨nd, rfl⟩⟩))
  refine bodyPost_ret (v := .tuple #[.agg #[.int .i64 1, .string (s.extract 0 n), .int .i64 at_], .int .i64 n]) (by simp [results, Try.results21, go_sem]) rfl ⟨rfl, ?_⟩
  repeat (first | exact Below.refl _ _ | apply below_alloc | apply pw_below_drewN | apply below_drew1 | refine below_set ?_ (Nat.le_refl _))
set_option maxHeartbeats 1600000 in
theorem lex_token.name_no (s : ByteArray) (at_ : Int) (w : World) (hs : s.size ≤ 2000) (h0 : 0 < s.size) (hl : LexSpec.letter ((s[0]'h0).toNat : Int) = true) (n : Nat) (hn : LexSpec.run LexSpec.inner (bytesOf s) = n) (hi : LexSpec.isName ((bytesOf s).take n) = false) :
    Calls Try.prog 21 #[.string s, .int .i64 at_] w fun e w' => e = .panicked [{ v := .iface 56 (.agg #[.int .i64 at_]), recovered := false }] ∧ Below w.heap.size w w' := by
  have hle : n ≤ s.size := by rw [← hn, ← bytesOf_length]; exact LexSpec.run_le _ _
  have HL := Aside0.mk hl
  have HN : ∀ W, Aside0 (Calls Try.prog 24 #[.string s, .func (.func 27) #[] #[]] W fun e w' => e = .returned (.int .i64 n) ∧ Drawn0 W w') := fun W => ⟨by
    have := lex_run.inner_ s W (by omega); rwa [hn] at this⟩
  have HI : ∀ W, Aside0 (Calls Try.prog 28 #[.string (s.extract 0 n)] W fun e w' => e = .returned (.bool false) ∧ Drawn0 W w') := fun W => ⟨by
    have hz : (s.extract 0 n).size ≤ 4611686018427387904 := by rw [size_extract _ _ _ hle]; omega
    have := lex_IsName.calls (s.extract 0 n) _ W (lex_IsName.of _ hz)
    rwa [bytesOf_head, hi] at this⟩
  clear hl hn hi
  go_enter Try.func21, Try.ntmps21
  go_wp2_with (first | (go_at_call 26; refine (lex_letter.is _ _).mono ?_; rintro e w' ⟨rfl, ⟨nd, rfl⟩⟩; rw [HL.out]) | (go_at_call 24; refine ((HN _).out).mono ?_; rintro e w' ⟨rfl, ⟨nd, rfl⟩⟩) | (go_at_call 28; refine ((HI _).out).mono ?_; rintro e w' ⟨rfl, ⟨nd, rfl⟩⟩))
  exact ⟨rfl, rfl, by repeat (first | exact Below.refl _ _ | apply below_alloc | apply pw_below_drewN | apply below_drew1 | refine below_set ?_ (Nat.le_refl _))⟩
set_option maxHeartbeats 1600000 in
theorem lex_token.term_no (s : ByteArray) (at_ : Int) (w : World) (hs : s.size ≤ 2000) (h0 : 0 < s.size) (hl : LexSpec.letter ((s[0]'h0).toNat : Int) = false) (hq : (((s[0]'h0).toNat : Int) == 39) = true) (n : Nat) (hn : LexSpec.run LexSpec.inside ((bytesOf s).drop 1) = n) (hi : LexSpec.isTerm (((bytesOf s).drop 1).take n) = false) :
    Calls Try.prog 21 #[.string s, .int .i64 at_] w fun e w' => e = .panicked [{ v := .iface 56 (.agg #[.int .i64 at_]), recovered := false }] ∧ Below w.heap.size w w' := by
  have hle : n + 1 ≤ s.size := by
    have := LexSpec.run_le LexSpec.inside ((bytesOf s).drop 1)
    rw [hn, List.length_drop, bytesOf_length] at this; omega
  have HL := Aside0.mk hl
  have HN : ∀ W, Aside0 (Calls Try.prog 24 #[.string (s.extract 1 s.size), .func (.func 29) #[] #[]] W fun e w' => e = .returned (.int .i64 n) ∧ Drawn0 W w') := fun W => ⟨by
    have := lex_run.inside_ (s.extract 1 s.size) W (by rw [size_tail]; omega); rwa [bytesOf_tail, hn] at this⟩
  have HI : ∀ W, Aside0 (Calls Try.prog 30 #[.string (s.extract 1 (n + 1))] W fun e w' => e = .returned (.bool false) ∧ Drawn0 W w') := fun W => ⟨by
    have hz : (s.extract 1 (n + 1)).size ≤ 4611686018427387904 := by rw [size_extract _ _ _ hle]; omega
    have := lex_IsTerm.calls (s.extract 1 (n + 1)) _ W (lex_IsTerm.of _ hz)
    rwa [bytesOf_extract, show n + 1 - 1 = n from rfl, hi] at this⟩
  have hsl : ∀ w' : World, (Instr.slice 9 (.string s) (some (.int .i64 1)) (some (.int .i64 ((n : Int) + 1))) none).run Try.prog w' = .ok (.string (s.extract 1 (n + 1))) w' := fun w' => by
    have := run_slice_string (P := Try.prog) w' 9 s .i64 .i64 1 ((n : Int) + 1) Try.underlying9 (by omega) (by omega) (by omega)
    rwa [show ((n : Int) + 1).toNat = n + 1 from by omega] at this
  clear hl hn hi
  go_enter Try.func21, Try.ntmps21
  go_wp2_with (first | (go_at_call 26; refine (lex_letter.is _ _).mono ?_; rintro e w' ⟨rfl, ⟨nd, rfl⟩⟩; rw [HL.out]) | (go_at_call 24; refine ((HN _).out).mono ?_; rintro e w' ⟨rfl, ⟨nd, rfl⟩⟩) | (go_at_call 30; refine ((HI _).out).mono ?_; rintro e w' ⟨rfl, ⟨nd, rfl⟩⟩))
  exact ⟨rfl, rfl, by repeat (first | exact Below.refl _ _ | apply below_alloc | apply pw_below_drewN | apply below_drew1 | refine below_set ?_ (Nat.le_refl _))⟩
set_option maxHeartbeats 1600000 in
theorem lex_token.quote_end (s : ByteArray) (at_ : Int) (w : World) (hs : s.size ≤ 2000) (h0 : 0 < s.size) (hl : LexSpec.letter ((s[0]'h0).toNat : Int) = false) (hq : (((s[0]'h0).toNat : Int) == 39) = true) (n : Nat) (hn : LexSpec.run LexSpec.inside ((bytesOf s).drop 1) = n) (hi : LexSpec.isTerm (((bytesOf s).drop 1).take n) = true) (he : n + 1 = s.size) :
    Calls Try.prog 21 #[.string s, .int .i64 at_] w fun e w' => e = .panicked [{ v := .iface 56 (.agg #[.int .i64 at_]), recovered := false }] ∧ Below w.heap.size w w' := by
  have hle : n + 1 ≤ s.size := by
    have := LexSpec.run_le LexSpec.inside ((bytesOf s).drop 1)
    rw [hn, List.length_drop, bytesOf_length] at this; omega
  have HL := Aside0.mk hl
  have HN : ∀ W, Aside0 (Calls Try.prog 24 #[.string (s.extract 1 s.size), .func (.func 29) #[] #[]] W fun e w' => e = .returned (.int .i64 n) ∧ Drawn0 W w') := fun W => ⟨by
    have := lex_run.inside_ (s.extract 1 s.size) W (by rw [size_tail]; omega); rwa [bytesOf_tail, hn] at this⟩
  have HI : ∀ W, Aside0 (Calls Try.prog 30 #[.string (s.extract 1 (n + 1))] W fun e w' => e = .returned (.bool true) ∧ Drawn0 W w') := fun W => ⟨by
    have hz : (s.extract 1 (n + 1)).size ≤ 4611686018427387904 := by rw [size_extract _ _ _ hle]; omega
    have := lex_IsTerm.calls (s.extract 1 (n + 1)) _ W (lex_IsTerm.of _ hz)
    rwa [bytesOf_extract, show n + 1 - 1 = n from rfl, hi] at this⟩
  have hsl : ∀ w' : World, (Instr.slice 9 (.string s) (some (.int .i64 1)) (some (.int .i64 ((n : Int) + 1))) none).run Try.prog w' = .ok (.string (s.extract 1 (n + 1))) w' := fun w' => by
    have := run_slice_string (P := Try.prog) w' 9 s .i64 .i64 1 ((n : Int) + 1) Try.underlying9 (by omega) (by omega) (by omega)
    rwa [show ((n : Int) + 1).toNat = n + 1 from by omega] at this
  clear hl hn hi
  have k1 : ((n : Int) + 1 == (s.size : Int)) = true := by rw [beq_iff_eq]; omega
  have HE := Aside0.mk he
  clear he
  go_enter Try.func21, Try.ntmps21
  go_wp2_with (first | (go_at_call 26; refine (lex_letter.is _ _).mono ?_; rintro e w' ⟨rfl, ⟨nd, rfl⟩⟩; rw [HL.out]) | (go_at_call 24; refine ((HN _).out).mono ?_; rintro e w' ⟨rfl, ⟨nd, rfl⟩⟩) | (go_at_call 30; refine ((HI _).out).mono ?_; rintro e w' ⟨rfl, ⟨nd, rfl⟩⟩))
  exact ⟨rfl, rfl, by repeat (first | exact Below.refl _ _ | apply below_alloc | apply pw_below_drewN | apply below_drew1 | refine below_set ?_ (Nat.le_refl _))⟩
set_option maxHeartbeats 1600000 in
theorem lex_token.quote_no (s : ByteArray) (at_ : Int) (w : World) (hs : s.size ≤ 2000) (h0 : 0 < s.size) (hl : LexSpec.letter ((s[0]'h0).toNat : Int) = false) (hq : (((s[0]'h0).toNat : Int) == 39) = true) (n : Nat) (hn : LexSpec.run LexSpec.inside ((bytesOf s).drop 1) = n) (hi : LexSpec.isTerm (((bytesOf s).drop 1).take n) = true) (he : n + 1 < s.size) (hb : (((s[n + 1]'he).toNat : Int) == 39) = false) :
    Calls Try.prog 21 #[.string s, .int .i64 at_] w fun e w' => e = .panicked [{ v := .iface 56 (.agg #[.int .i64 at_]), recovered := false }] ∧ Below w.heap.size w w' := by
  have hle : n + 1 ≤ s.size := by
    have := LexSpec.run_le LexSpec.inside ((bytesOf s).drop 1)
    rw [hn, List.length_drop, bytesOf_length] at this; omega
  have HL := Aside0.mk hl
  have HN : ∀ W, Aside0 (Calls Try.prog 24 #[.string (s.extract 1 s.size), .func (.func 29) #[] #[]] W fun e w' => e = .returned (.int .i64 n) ∧ Drawn0 W w') := fun W => ⟨by
    have := lex_run.inside_ (s.extract 1 s.size) W (by rw [size_tail]; omega); rwa [bytesOf_tail, hn] at this⟩
  have HI : ∀ W, Aside0 (Calls Try.prog 30 #[.string (s.extract 1 (n + 1))] W fun e w' => e = .returned (.bool true) ∧ Drawn0 W w') := fun W => ⟨by
    have hz : (s.extract 1 (n + 1)).size ≤ 4611686018427387904 := by rw [size_extract _ _ _ hle]; omega
    have := lex_IsTerm.calls (s.extract 1 (n + 1)) _ W (lex_IsTerm.of _ hz)
    rwa [bytesOf_extract, show n + 1 - 1 = n from rfl, hi] at this⟩
  have hsl : ∀ w' : World, (Instr.slice 9 (.string s) (some (.int .i64 1)) (some (.int .i64 ((n : Int) + 1))) none).run Try.prog w' = .ok (.string (s.extract 1 (n + 1))) w' := fun w' => by
    have := run_slice_string (P := Try.prog) w' 9 s .i64 .i64 1 ((n : Int) + 1) Try.underlying9 (by omega) (by omega) (by omega)
    rwa [show ((n : Int) + 1).toNat = n + 1 from by omega] at this
  clear hl hn hi
  have k1 : ((n : Int) + 1 == (s.size : Int)) = false := by rw [beq_eq_false_iff_ne]; omega
  have k2 : (((s[n + 1]'he).toNat : Int) != 39) = true := by rw [bne, hb]; rfl
  clear hb
  go_enter Try.func21, Try.ntmps21
  go_wp2_with (first | (go_at_call 26; refine (lex_letter.is _ _).mono ?_; rintro e w' ⟨rfl, ⟨nd, rfl⟩⟩; rw [HL.out]) | (go_at_call 24; refine ((HN _).out).mono ?_; rintro e w' ⟨rfl, ⟨nd, rfl⟩⟩) | (go_at_call 30; refine ((HI _).out).mono ?_; rintro e w' ⟨rfl, ⟨nd, rfl⟩⟩))
  exact ⟨rfl, rfl, by repeat (first | exact Below.refl _ _ | apply below_alloc | apply pw_below_drewN | apply below_drew1 | refine below_set ?_ (Nat.le_refl _))⟩
set_option maxHeartbeats 1600000 in
theorem lex_token.quote_yes (s : ByteArray) (at_ : Int) (w : World) (hs : s.size ≤ 2000) (h0 : 0 < s.size) (hl : LexSpec.letter ((s[0]'h0).toNat : Int) = false) (hq : (((s[0]'h0).toNat : Int) == 39) = true) (n : Nat) (hn : LexSpec.run LexSpec.inside ((bytesOf s).drop 1) = n) (hi : LexSpec.isTerm (((bytesOf s).drop 1).take n) = true) (he : n + 1 < s.size) (hb : (((s[n + 1]'he).toNat : Int) == 39) = true) :
    Calls Try.prog 21 #[.string s, .int .i64 at_] w fun e w' => e = .returned (.tuple #[.agg #[.int .i64 2, .string (s.extract 1 (n + 1)), .int .i64 at_], .int .i64 (n + 2 : Nat)]) ∧ Below w.heap.size w w' := by
  have hle : n + 1 ≤ s.size := by
    have := LexSpec.run_le LexSpec.inside ((bytesOf s).drop 1)
    rw [hn, List.length_drop, bytesOf_length] at this; omega
  have HL := Aside0.mk hl
  have HN : ∀ W, Aside0 (Calls Try.prog 24 #[.string (s.extract 1 s.size), .func (.func 29) #[] #[]] W fun e w' => e = .returned (.int .i64 n) ∧ Drawn0 W w') := fun W => ⟨by
    have := lex_run.inside_ (s.extract 1 s.size) W (by rw [size_tail]; omega); rwa [bytesOf_tail, hn] at this⟩
  have HI : ∀ W, Aside0 (Calls Try.prog 30 #[.string (s.extract 1 (n + 1))] W fun e w' => e = .returned (.bool true) ∧ Drawn0 W w') := fun W => ⟨by
    have hz : (s.extract 1 (n + 1)).size ≤ 4611686018427387904 := by rw [size_extract _ _ _ hle]; omega
    have := lex_IsTerm.calls (s.extract 1 (n + 1)) _ W (lex_IsTerm.of _ hz)
    rwa [bytesOf_extract, show n + 1 - 1 = n from rfl, hi] at this⟩
  have hsl : ∀ w' : World, (Instr.slice 9 (.string s) (some (.int .i64 1)) (some (.int .i64 ((n : Int) + 1))) none).run Try.prog w' = .ok (.string (s.extract 1 (n + 1))) w' := fun w' => by
    have := run_slice_string (P := Try.prog) w' 9 s .i64 .i64 1 ((n : Int) + 1) Try.underlying9 (by omega) (by omega) (by omega)
    rwa [show ((n : Int) + 1).toNat = n + 1 from by omega] at this
  clear hl hn hi
  have k1 : ((n : Int) + 1 == (s.size : Int)) = false := by rw [beq_eq_false_iff_ne]; omega
  have k2 : (((s[n + 1]'he).toNat : Int) != 39) = false := by rw [bne, hb]; rfl
  clear hb
  go_enter Try.func21, Try.ntmps21
  go_wp2_with (first | (go_at_call 26; refine (lex_letter.is _ _).mono ?_; rintro e w' ⟨rfl, ⟨nd, rfl⟩⟩; rw [HL.out]) | (go_at_call 24; refine ((HN _).out).mono ?_; rintro e w' ⟨rfl, ⟨nd, rfl⟩⟩) | (go_at_call 30; refine ((HI _).out).mono ?_; rintro e w' ⟨rfl, ⟨nd, rfl⟩⟩))
  refine bodyPost_ret (v := .tuple #[.agg #[.int .i64 2, .string (s.extract 1 (n + 1)), .int .i64 at_], .int .i64 (n + 2 : Nat)]) (by simp [results, Try.results21, go_sem]) rfl ⟨rfl, ?_⟩
  repeat (first | exact Below.refl _ _ | apply below_alloc | apply pw_below_drewN | apply below_drew1 | refine below_set ?_ (Nat.le_refl _))
set_option maxHeartbeats 1600000 in
theorem lex_token.sign_no (s : ByteArray) (at_ : Int) (w : World) (hs : s.size ≤ 2000) (h0 : 0 < s.size) (hl : LexSpec.letter ((s[0]'h0).toNat : Int) = false) (hq : (((s[0]'h0).toNat : Int) == 39) = false) (g : Int) (hg : LexSpec.sign ((s[0]'h0).toNat : Int) = g) (hz : g = 0) :
    Calls Try.prog 21 #[.string s, .int .i64 at_] w fun e w' => e = .panicked [{ v := .iface 56 (.agg #[.int .i64 at_]), recovered := false }] ∧ Below w.heap.size w w' := by
  have HL := Aside0.mk hl
  have HG : ∀ W, Aside0 (Calls Try.prog 31 #[.int .u8 ((s[0]'h0).toNat : Int)] W fun e w' => e = .returned (.int .i64 g) ∧ Drawn0 W w') := fun W => ⟨by
    have := lex_signs.is ((s[0]'h0).toNat : Int) W; rwa [hg] at this⟩
  clear hl hg
  have k1 : (g != 0) = false := by simp [hz]
  clear hz
  go_enter Try.func21, Try.ntmps21
  go_wp2_with (first | (go_at_call 26; refine (lex_letter.is _ _).mono ?_; rintro e w' ⟨rfl, ⟨nd, rfl⟩⟩; rw [HL.out]) | (go_at_call 31; refine ((HG _).out).mono ?_; rintro e w' ⟨rfl, ⟨nd, rfl⟩⟩))
  exact ⟨rfl, rfl, by repeat (first | exact Below.refl _ _ | apply below_alloc | apply pw_below_drewN | apply below_drew1 | refine below_set ?_ (Nat.le_refl _))⟩
set_option maxHeartbeats 1600000 in
theorem lex_token.sign_yes (s : ByteArray) (at_ : Int) (w : World) (hs : s.size ≤ 2000) (h0 : 0 < s.size) (hl : LexSpec.letter ((s[0]'h0).toNat : Int) = false) (hq : (((s[0]'h0).toNat : Int) == 39) = false) (g : Int) (hg : LexSpec.sign ((s[0]'h0).toNat : Int) = g) (hz : g ≠ 0) :
    Calls Try.prog 21 #[.string s, .int .i64 at_] w fun e w' => e = .returned (.tuple #[.agg #[.int .i64 g, .string (s.extract 0 1), .int .i64 at_], .int .i64 1]) ∧ Below w.heap.size w w' := by
  have HL := Aside0.mk hl
  have HG : ∀ W, Aside0 (Calls Try.prog 31 #[.int .u8 ((s[0]'h0).toNat : Int)] W fun e w' => e = .returned (.int .i64 g) ∧ Drawn0 W w') := fun W => ⟨by
    have := lex_signs.is ((s[0]'h0).toNat : Int) W; rwa [hg] at this⟩
  clear hl hg
  have k1 : (g != 0) = true := by simp [hz]
  clear hz
  go_enter Try.func21, Try.ntmps21
  go_wp2_with (first | (go_at_call 26; refine (lex_letter.is _ _).mono ?_; rintro e w' ⟨rfl, ⟨nd, rfl⟩⟩; rw [HL.out]) | (go_at_call 31; refine ((HG _).out).mono ?_; rintro e w' ⟨rfl, ⟨nd, rfl⟩⟩))
  go_region_with (first | (go_at_call 31; refine ((HG _).out).mono ?_; rintro e w' ⟨rfl, ⟨nd, rfl⟩⟩))
  all_goals
    go_wp2
    refine bodyPost_ret (v := .tuple #[.agg #[.int .i64 g, .string (s.extract 0 1), .int .i64 at_], .int .i64 1]) (by simp [results, Try.results21, go_sem]) rfl ⟨rfl, ?_⟩
    repeat (first | exact Below.refl _ _ | apply below_alloc | apply pw_below_drewN | apply below_drew1 | refine below_set ?_ (Nat.le_refl _))
theorem bytesOf_cons (s : ByteArray) (h0 : 0 < s.size) : bytesOf s = ((s[0]'h0).toNat : Int) :: (bytesOf s).drop 1 := by simpa using drop_cons s 0 h0
theorem lex_token.any (s : ByteArray) (at_ : Int) (w : World) (hs : s.size ≤ 2000) (h0 : 0 < s.size) :
    match LexSpec.token (bytesOf s) with
    | some (kd, a, b, n) => Calls Try.prog 21 #[.string s, .int .i64 at_] w fun e w' => e = .returned (.tuple #[.agg #[.int .i64 kd, .string (s.extract a b), .int .i64 at_], .int .i64 n]) ∧ Below w.heap.size w w'
    | none => Calls Try.prog 21 #[.string s, .int .i64 at_] w fun e w' => e = .panicked [{ v := .iface 56 (.agg #[.int .i64 at_]), recovered := false }] ∧ Below w.heap.size w w' := by
  have e := bytesOf_cons s h0
  rw [e]
  simp only [LexSpec.token]
  rw [← e]
  by_cases hl : LexSpec.letter ((s[0]'h0).toNat : Int) = true
  · rw [if_pos hl]
    cases hi : LexSpec.isName ((bytesOf s).take (LexSpec.run LexSpec.inner (bytesOf s)))
    · simp only [Bool.false_eq_true, if_false]
      exact lex_token.name_no s at_ w hs h0 hl _ rfl hi
    · simp only [if_true]
      exact lex_token.name_yes s at_ w hs h0 hl _ rfl hi
  · rw [if_neg hl]
    replace hl := Bool.eq_false_iff.mpr hl
    by_cases hq : (((s[0]'h0).toNat : Int) == 39) = true
    · rw [if_pos hq]
      have hr := LexSpec.run_le LexSpec.inside ((bytesOf s).drop 1)
      have hlen : ((bytesOf s).drop 1).length = s.size - 1 := by rw [List.length_drop, bytesOf_length]
      generalize hn : LexSpec.run LexSpec.inside ((bytesOf s).drop 1) = n at *
      cases hi : LexSpec.isTerm (((bytesOf s).drop 1).take n)
      · simp only [Bool.false_and, Bool.false_eq_true, if_false]
        exact lex_token.term_no s at_ w hs h0 hl hq n hn hi
      · simp only [Bool.true_and]
        rw [hlen] at hr ⊢
        by_cases he : n + 1 = s.size
        · rw [decide_eq_false (by omega)]
          simp only [Bool.false_and, Bool.false_eq_true, if_false]
          exact lex_token.quote_end s at_ w hs h0 hl hq n hn hi he
        · have he' : n + 1 < s.size := by omega
          rw [decide_eq_true (by omega)]
          simp only [Bool.true_and]
          have eg : ((bytesOf s).drop 1).getD n 0 = ((s[n + 1]'he').toNat : Int) := by
            rw [← bytesOf_getD s (n + 1) he', List.getD_eq_getElem?_getD, List.getD_eq_getElem?_getD, List.getElem?_drop, Nat.add_comm]
          rw [eg]
          cases hb : (((s[n + 1]'he').toNat : Int) == 39)
          · simp only [Bool.false_eq_true, if_false]
            exact lex_token.quote_no s at_ w hs h0 hl hq n hn hi he' hb
          · simp only [if_true]
            exact lex_token.quote_yes s at_ w hs h0 hl hq n hn hi he' hb
    · rw [if_neg hq]
      replace hq := Bool.eq_false_iff.mpr hq
      by_cases hz : LexSpec.sign ((s[0]'h0).toNat : Int) = 0
      · rw [if_neg (by simp [hz])]
        exact lex_token.sign_no s at_ w hs h0 hl hq _ rfl hz
      · rw [if_pos (by simp [hz])]
        exact lex_token.sign_yes s at_ w hs h0 hl hq _ rfl hz
theorem lex_token.some_ (s : ByteArray) (at_ : Int) (w : World) (hs : s.size ≤ 2000) (h0 : 0 < s.size) (kd : Int) (a b n : Nat) (h : LexSpec.token (bytesOf s) = some (kd, a, b, n)) :
    Calls Try.prog 21 #[.string s, .int .i64 at_] w fun e w' => e = .returned (.tuple #[.agg #[.int .i64 kd, .string (s.extract a b), .int .i64 at_], .int .i64 n]) ∧ Below w.heap.size w w' := by
  have := lex_token.any s at_ w hs h0
  rwa [h] at this
theorem lex_token.none_ (s : ByteArray) (at_ : Int) (w : World) (hs : s.size ≤ 2000) (h0 : 0 < s.size) (h : LexSpec.token (bytesOf s) = none) :
    Calls Try.prog 21 #[.string s, .int .i64 at_] w fun e w' => e = .panicked [{ v := .iface 56 (.agg #[.int .i64 at_]), recovered := false }] ∧ Below w.heap.size w w' := by
  have := lex_token.any s at_ w hs h0
  rwa [h] at this

end Go.Proofs.Ytilldpmlcgikdaa.P
