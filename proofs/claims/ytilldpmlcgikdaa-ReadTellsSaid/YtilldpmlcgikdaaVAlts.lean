import Derived.Test.YtilldpmlcgikdaaVB
import Derived.Test.YtilldpmlcgikdaaVt
import Derived.Test.YtilldpmlcgikdaaPx0
import Derived.Test.YtilldpmlcgikdaaPx11
import Derived.Test.YtilldpmlcgikdaaPx10
set_option linter.unusedVariables false
set_option linter.unusedSimpArgs false
/- read: tokens and alternatives as data; are two alike? -/
namespace Go.Proofs.Ytilldpmlcgikdaa.V
open Go Go.RowKit Go.Proofs.Ytilldpmlcgikdaa.P
abbrev Tok := S38
abbrev Alt := S40
def encTok (t : Tok) : List D := [.val (.int .i64 t.f0), .val (.string t.f1), .val (.int .i64 t.f2)]
def encAlt (a : Alt) : List D := [.val (.int .i64 a.f0.f0), .val (.string a.f0.f1), .val (.int .i64 a.f0.f2), .sl 3 (a.f1.map encTok)]
def tokEq (t u : Tok) : Bool := decide (t.f0 = u.f0) && (decide (t.f1 = u.f1) && (decide (t.f2 = u.f2) && true))
theorem tokEq_iff (t u : Tok) : tokEq t u = true ↔ t = u := by
  obtain ⟨a, b, c⟩ := t
  obtain ⟨a', b', c'⟩ := u
  simp [tokEq]
instance : DecidableEq Tok := fun t u => decidable_of_iff _ (tokEq_iff t u)
theorem tokEq_eq (t u : Tok) : tokEq t u = decide (t = u) := by
  rw [Bool.eq_iff_iff, tokEq_iff]; simp
def altEq (t u : Alt) : Bool := tokEq t.f0 u.f0 && decide (t.f1 = u.f1)
theorem altEq_iff (t u : Alt) : altEq t u = true ↔ t = u := by
  obtain ⟨a, b⟩ := t
  obtain ⟨a', b'⟩ := u
  simp [altEq, tokEq_iff]
instance : DecidableEq Alt := fun t u => decidable_of_iff _ (altEq_iff t u)
theorem take_same {α : Type} {a b : List α} {k : Nat} {x y : α} (h : a.take k = b.take k) (hx : a[k]? = some x) (hy : b[k]? = some y) (e : x = y) : a.take (k + 1) = b.take (k + 1) := by
  rw [List.take_add_one, List.take_add_one, h, hx, hy, e]
set_option maxHeartbeats 1000000 in
theorem keepTokens_v (a b : List Tok) (ha : a.length ≤ 140737488355328) : VCalls Try.prog 14 [.sl 3 (a.map encTok), .sl 3 (b.map encTok)] [] 0 (Gives (.val (.bool (decide (a = b))))) := by
  refine VCalls.enter (n := 26) Try.func14 rfl rfl (by simp) (fun cx hcx => ?_)
  (repeat (first | ((with_reducible refine VOps.same ?_); (first | (refine VOps.nil ?_; dsimp only [VThen, VBlock]) | refine VOps.vp (by rfl) (by kernel_rfl) (by rfl) (VPure.move rfl rfl) ?_ | refine VOps.vp (by rfl) (by kernel_rfl) (by rfl) (VPure.assign rfl rfl) ?_ | refine VOps.vp (by rfl) (by kernel_rfl) (by rfl) (VPure.len_map TI.und' rfl rfl) ?_ | refine VOps.vp (by rfl) (by kernel_rfl) (by rfl) (VPure.nei rfl rfl rfl) ?_)) | refine VCode.seq ?_ | refine VCode.region rfl ?_))
  refine VCode.cond rfl (fun hc => ?_) (fun hc => ?_)
  · (repeat (first | ((with_reducible refine VOps.same ?_); (first | (refine VOps.nil ?_; dsimp only [VThen, VBlock]) | refine VOps.vp (by rfl) (by kernel_rfl) (by rfl) (VPure.assign rfl rfl) ?_)) | refine VCode.seq ?_ | refine VCode.region rfl ?_))
    refine VCode.give hcx rfl rfl rfl rfl rfl ?_
    simp only [Bool.not_eq_true', decide_eq_false_iff_not] at hc
    have : decide (a = b) = false := decide_eq_false (fun h => hc (by rw [h]))
    rw [this]
  · simp only [Bool.not_eq_false', decide_eq_true_eq] at hc
    have hlen : a.length = b.length := by omega
    (repeat (first | ((with_reducible refine VOps.same ?_); (first | (refine VOps.nil ?_; dsimp only [VThen, VBlock]) | refine VOps.vp (by rfl) (by kernel_rfl) (by rfl) (VPure.assign rfl rfl) ?_)) | refine VCode.seq ?_ | refine VCode.region rfl ?_ | refine VCode.block ?_ | refine VCode.skip ?_))
    refine VCode.loop (fun m st => ∃ k : Nat, k ≤ a.length ∧ m = a.length - k ∧ a.take k = b.take k ∧ st = ⟨[(5, .val (.int .i64 (k : Int))), (0, .sl 3 (a.map encTok)), (1, .sl 3 (b.map encTok))], [], 0⟩) a.length ?_ ?_
    · (refine Less.mk (l := []) hcx ?ss ?hh rfl (by decide) rfl ⟨0, by omega, by omega, by simp, rfl⟩; (case ss => repeat (first | exact SubS.nil | refine SubS.cons rfl rfl ?_ | refine SubS.cons (congrArg (fun z => some (V.val (Value.int IntKind.i64 z))) (by omega)) rfl ?_ | refine SubS.cons (congrArg (fun z => some (V.val (Value.bool z))) (by assumption)) rfl ?_)); (case hh => repeat (first | exact SubH.nil | refine SubH.cons rfl rfl rfl ?_)))
    rintro m st ⟨k, hk, rfl, hs, rfl⟩
    cases ht : a[k]? with
    | some t =>
      have hlt : k < a.length := (List.getElem?_eq_some_iff.1 ht).1
      obtain ⟨u, hu⟩ : ∃ u, b[k]? = some u := ⟨_, List.getElem?_eq_getElem (by omega)⟩
      (repeat (first | ((with_reducible refine VOps.same ?_); (first | (refine VOps.nil ?_; dsimp only [VThen, VBlock]) | refine VOps.vp (by rfl) (by kernel_rfl) (by rfl) (VPure.move rfl rfl) ?_ | refine VOps.vp (by rfl) (by kernel_rfl) (by rfl) (VPure.len_map TI.und' rfl rfl) ?_ | refine VOps.vp (by rfl) (by kernel_rfl) (by rfl) (VPure.lss rfl rfl rfl) ?_)) | refine VCode.seq ?_ | refine VCode.region rfl ?_))
      refine VCode.cond_t rfl (decide_eq_true (by omega)) ?_
      (repeat (first | ((with_reducible refine VOps.same ?_); (first | (refine VOps.nil ?_; dsimp only [VThen, VBlock]) | refine VOps.vp (by rfl) (by kernel_rfl) (by rfl) (VPure.move rfl rfl) ?_ | refine VOps.vp (by rfl) (by kernel_rfl) (by rfl) (VPure.idx_map rfl rfl rfl (by assumption)) ?_ | refine VOps.vv (by rfl) (by kernel_rfl) (by rfl) (VLoad.elA rfl rfl (by rfl) (Nat.le_of_ble_eq_true (by rfl))) ?_ | refine VOps.vp (by rfl) (by kernel_rfl) (by rfl) (VPure.neA rfl rfl rfl (by rfl)) ?_)) | refine VCode.seq ?_ | refine VCode.draw [] rfl ?_ | refine VCode.block ?_ | refine VCode.skip ?_))
      refine VCode.cond rfl (fun hb => ?_) (fun hb => ?_)
      · (repeat (first | ((with_reducible refine VOps.same ?_); (first | (refine VOps.nil ?_; dsimp only [VThen, VBlock]) | refine VOps.vp (by rfl) (by kernel_rfl) (by rfl) (VPure.assign rfl rfl) ?_)) | refine VCode.seq ?_ | refine VCode.region rfl ?_))
        refine VCode.give hcx rfl rfl rfl rfl rfl ?_
        have : decide (a = b) = false := by
          have hne : t ≠ u := fun e => by rw [← tokEq_iff] at e; change (!tokEq t u) = true at hb; rw [e] at hb; cases hb
          refine decide_eq_false (fun e => hne ?_)
          subst e; rw [ht] at hu; exact Option.some.inj hu
        rw [this]
      · (repeat (first | ((with_reducible refine VOps.same ?_); (first | (refine VOps.nil ?_; dsimp only [VThen, VBlock]) | refine VOps.vp (by rfl) (by kernel_rfl) (by rfl) (VPure.move rfl rfl) ?_ | refine VOps.vp (by rfl) (by kernel_rfl) (by rfl) (VPure.assign rfl rfl) ?_ | refine VOps.vp (by rfl) (by kernel_rfl) (by rfl) (VPure.addK rfl rfl rfl (by omega)) ?_)) | refine VCode.region rfl ?_ | refine VCode.skip ?_))
        have e : t = u := by
          change (!tokEq t u) = false at hb
          rw [← tokEq_iff]; simpa using hb
        (refine Less.mk (l := []) hcx ?ss ?hh rfl (by decide) rfl ⟨_, ?_, k + 1, by omega, rfl, take_same hs ht hu e, rfl⟩; (case ss => repeat (first | exact SubS.nil | refine SubS.cons rfl rfl ?_ | refine SubS.cons (congrArg (fun z => some (V.val (Value.int IntKind.i64 z))) (by omega)) rfl ?_ | refine SubS.cons (congrArg (fun z => some (V.val (Value.bool z))) (by assumption)) rfl ?_)); (case hh => repeat (first | exact SubH.nil | refine SubH.cons rfl rfl rfl ?_)))
        omega
    | none =>
      have hge : a.length ≤ k := List.getElem?_eq_none_iff.1 ht
      (repeat (first | ((with_reducible refine VOps.same ?_); (first | (refine VOps.nil ?_; dsimp only [VThen, VBlock]) | refine VOps.vp (by rfl) (by kernel_rfl) (by rfl) (VPure.move rfl rfl) ?_ | refine VOps.vp (by rfl) (by kernel_rfl) (by rfl) (VPure.assign rfl rfl) ?_ | refine VOps.vp (by rfl) (by kernel_rfl) (by rfl) (VPure.len_map TI.und' rfl rfl) ?_ | refine VOps.vp (by rfl) (by kernel_rfl) (by rfl) (VPure.lss rfl rfl rfl) ?_)) | refine VCode.seq ?_ | refine VCode.region rfl ?_ | refine VCode.exit ?_ | (refine VCode.cond_f rfl ?cb ?_; (case cb => first | rfl | assumption | exact decide_eq_false (by omega) | (simp only [Bool.not_eq_false', decide_eq_true_eq]; omega)))))
      refine VCode.give hcx rfl rfl rfl rfl rfl ?_
      have : a = b := by
        rw [List.take_of_length_le hge, List.take_of_length_le (by omega)] at hs
        exact hs
      rw [decide_eq_true this]
set_option maxHeartbeats 1000000 in
theorem keepAlts_v (a b : List Alt) (ha : a.length ≤ 140737488355328) (hr : ∀ x ∈ a, x.f1.length ≤ 140737488355328) : VCalls Try.prog 13 [.sl 4 (a.map encAlt), .sl 4 (b.map encAlt)] [] 0 (Gives (.val (.bool (decide (a = b))))) := by
  refine VCalls.enter (n := 42) Try.func13 rfl rfl (by simp) (fun cx hcx => ?_)
  (repeat (first | ((with_reducible refine VOps.same ?_); (first | (refine VOps.nil ?_; dsimp only [VThen, VBlock]) | refine VOps.vp (by rfl) (by kernel_rfl) (by rfl) (VPure.move rfl rfl) ?_ | refine VOps.vp (by rfl) (by kernel_rfl) (by rfl) (VPure.assign rfl rfl) ?_ | refine VOps.vp (by rfl) (by kernel_rfl) (by rfl) (VPure.len_map TI.und' rfl rfl) ?_ | refine VOps.vp (by rfl) (by kernel_rfl) (by rfl) (VPure.nei rfl rfl rfl) ?_)) | refine VCode.seq ?_ | refine VCode.region rfl ?_))
  refine VCode.cond rfl (fun hc => ?_) (fun hc => ?_)
  · (repeat (first | ((with_reducible refine VOps.same ?_); (first | (refine VOps.nil ?_; dsimp only [VThen, VBlock]) | refine VOps.vp (by rfl) (by kernel_rfl) (by rfl) (VPure.assign rfl rfl) ?_)) | refine VCode.seq ?_ | refine VCode.region rfl ?_))
    refine VCode.give hcx rfl rfl rfl rfl rfl ?_
    simp only [Bool.not_eq_true', decide_eq_false_iff_not] at hc
    have : decide (a = b) = false := decide_eq_false (fun h => hc (by rw [h]))
    rw [this]
  · simp only [Bool.not_eq_false', decide_eq_true_eq] at hc
    have hlen : a.length = b.length := by omega
    (repeat (first | ((with_reducible refine VOps.same ?_); (first | (refine VOps.nil ?_; dsimp only [VThen, VBlock]) | refine VOps.vp (by rfl) (by kernel_rfl) (by rfl) (VPure.assign rfl rfl) ?_)) | refine VCode.seq ?_ | refine VCode.region rfl ?_ | refine VCode.block ?_ | refine VCode.skip ?_))
    refine VCode.loop (fun m st => ∃ k : Nat, k ≤ a.length ∧ m = a.length - k ∧ a.take k = b.take k ∧ st = ⟨[(5, .val (.int .i64 (k : Int))), (0, .sl 4 (a.map encAlt)), (1, .sl 4 (b.map encAlt))], [], 0⟩) a.length ?_ ?_
    · (refine Less.mk (l := []) hcx ?ss ?hh rfl (by decide) rfl ⟨0, by omega, by omega, by simp, rfl⟩; (case ss => repeat (first | exact SubS.nil | refine SubS.cons rfl rfl ?_ | refine SubS.cons (congrArg (fun z => some (V.val (Value.int IntKind.i64 z))) (by omega)) rfl ?_ | refine SubS.cons (congrArg (fun z => some (V.val (Value.bool z))) (by assumption)) rfl ?_)); (case hh => repeat (first | exact SubH.nil | refine SubH.cons rfl rfl rfl ?_)))
    rintro m st ⟨k, hk, rfl, hs, rfl⟩
    cases ht : a[k]? with
    | some t =>
      have hlt : k < a.length := (List.getElem?_eq_some_iff.1 ht).1
      obtain ⟨u, hu⟩ : ∃ u, b[k]? = some u := ⟨_, List.getElem?_eq_getElem (by omega)⟩
      have hmem : t ∈ a := List.mem_of_getElem? ht
      (repeat (first | ((with_reducible refine VOps.same ?_); (first | (refine VOps.nil ?_; dsimp only [VThen, VBlock]) | refine VOps.vp (by rfl) (by kernel_rfl) (by rfl) (VPure.move rfl rfl) ?_ | refine VOps.vp (by rfl) (by kernel_rfl) (by rfl) (VPure.len_map TI.und' rfl rfl) ?_ | refine VOps.vp (by rfl) (by kernel_rfl) (by rfl) (VPure.lss rfl rfl rfl) ?_)) | refine VCode.seq ?_ | refine VCode.region rfl ?_))
      refine VCode.cond_t rfl (decide_eq_true (by omega)) ?_
      (repeat (first | ((with_reducible refine VOps.same ?_); (first | refine VOps.vp (by rfl) (by kernel_rfl) (by rfl) (VPure.move rfl rfl) ?_ | refine VOps.vp (by rfl) (by kernel_rfl) (by rfl) (VPure.idx_map rfl rfl rfl (by assumption)) ?_ | refine VOps.vp (by rfl) (by kernel_rfl) (by rfl) (VPure.field_el rfl rfl) ?_ | refine VOps.vv (by rfl) (by kernel_rfl) (by rfl) (VLoad.elA rfl rfl (by rfl) (Nat.le_of_ble_eq_true (by rfl))) ?_ | refine VOps.vp (by rfl) (by kernel_rfl) (by rfl) (VPure.neA rfl rfl rfl (by rfl)) ?_)) | refine VCode.seq ?_ | refine VCode.draw [] rfl ?_ | refine VCode.block ?_ | refine VCode.skip ?_))
      refine VOps.bool (d := 28) rfl (fun h1 => ?_) (fun h1 => ?_)
      · (repeat (first | ((with_reducible refine VOps.same ?_); (first | (refine VOps.nil ?_; dsimp only [VThen, VBlock]) | refine VOps.vp (by rfl) (by kernel_rfl) (by rfl) (VPure.pick_t rfl rfl rfl) ?_ | refine VOps.passv rfl (by kernel_rfl) rfl ?_))))
        refine VCode.cond_t rfl rfl ?_
        (repeat (first | ((with_reducible refine VOps.same ?_); (first | (refine VOps.nil ?_; dsimp only [VThen, VBlock]) | refine VOps.vp (by rfl) (by kernel_rfl) (by rfl) (VPure.assign rfl rfl) ?_)) | refine VCode.seq ?_ | refine VCode.region rfl ?_))
        refine VCode.give hcx rfl rfl rfl rfl rfl ?_
        have : decide (a = b) = false := by
          have hne : t ≠ u := fun e => by
            subst e
            change (!tokEq t.f0 t.f0) = true at h1
            rw [(tokEq_iff _ _).2 rfl] at h1; cases h1
          refine decide_eq_false (fun e => hne ?_)
          subst e; rw [ht] at hu; exact Option.some.inj hu
        rw [this]
      · (repeat (first | ((with_reducible refine VOps.same ?_); (first | refine VOps.vp (by rfl) (by kernel_rfl) (by rfl) (VPure.move rfl rfl) ?_ | refine VOps.vp (by rfl) (by kernel_rfl) (by rfl) (VPure.idx_map rfl rfl rfl (by assumption)) ?_ | refine VOps.vp (by rfl) (by kernel_rfl) (by rfl) (VPure.field_el rfl rfl) ?_ | refine VOps.vv (by rfl) (by kernel_rfl) (by rfl) (VLoad.el1 rfl rfl rfl (by rfl)) ?_))))
        refine VOps.oo rfl (by kernel_rfl) rfl (VOp.pure rfl Try.func14 rfl rfl rfl rfl rfl rfl (keepTokens_v t.f1 u.f1 (hr t hmem))) ?_
        (repeat (first | ((with_reducible refine VOps.same ?_); (first | (refine VOps.nil ?_; dsimp only [VThen, VBlock]) | refine VOps.vp (by rfl) (by kernel_rfl) (by rfl) (VPure.not rfl rfl) ?_ | refine VOps.vp (by rfl) (by kernel_rfl) (by rfl) (VPure.pick_f rfl rfl rfl) ?_))))
        refine VCode.cond rfl (fun hb => ?_) (fun hb => ?_)
        · (repeat (first | ((with_reducible refine VOps.same ?_); (first | (refine VOps.nil ?_; dsimp only [VThen, VBlock]) | refine VOps.vp (by rfl) (by kernel_rfl) (by rfl) (VPure.assign rfl rfl) ?_)) | refine VCode.seq ?_ | refine VCode.region rfl ?_))
          refine VCode.give hcx rfl rfl rfl rfl rfl ?_
          have : decide (a = b) = false := by
            have hne : t ≠ u := fun e => by subst e; simp at hb
            refine decide_eq_false (fun e => hne ?_)
            subst e; rw [ht] at hu; exact Option.some.inj hu
          rw [this]
        · (repeat (first | ((with_reducible refine VOps.same ?_); (first | (refine VOps.nil ?_; dsimp only [VThen, VBlock]) | refine VOps.vp (by rfl) (by kernel_rfl) (by rfl) (VPure.move rfl rfl) ?_ | refine VOps.vp (by rfl) (by kernel_rfl) (by rfl) (VPure.assign rfl rfl) ?_ | refine VOps.vp (by rfl) (by kernel_rfl) (by rfl) (VPure.addK rfl rfl rfl (by omega)) ?_)) | refine VCode.region rfl ?_ | refine VCode.skip ?_))
          have e : t = u := by
            change (!tokEq t.f0 u.f0) = false at h1
            have h2 : t.f0 = u.f0 := by rw [← tokEq_iff]; simpa using h1
            have h3 : t.f1 = u.f1 := by simpa using hb
            cases t; cases u; simp_all
          (refine Less.mk (l := []) hcx ?ss ?hh rfl (by decide) rfl ⟨_, ?_, k + 1, by omega, rfl, take_same hs ht hu e, rfl⟩; (case ss => repeat (first | exact SubS.nil | refine SubS.cons rfl rfl ?_ | refine SubS.cons (congrArg (fun z => some (V.val (Value.int IntKind.i64 z))) (by omega)) rfl ?_ | refine SubS.cons (congrArg (fun z => some (V.val (Value.bool z))) (by assumption)) rfl ?_)); (case hh => repeat (first | exact SubH.nil | refine SubH.cons rfl rfl rfl ?_)))
          omega
    | none =>
      have hge : a.length ≤ k := List.getElem?_eq_none_iff.1 ht
      (repeat (first | ((with_reducible refine VOps.same ?_); (first | (refine VOps.nil ?_; dsimp only [VThen, VBlock]) | refine VOps.vp (by rfl) (by kernel_rfl) (by rfl) (VPure.move rfl rfl) ?_ | refine VOps.vp (by rfl) (by kernel_rfl) (by rfl) (VPure.assign rfl rfl) ?_ | refine VOps.vp (by rfl) (by kernel_rfl) (by rfl) (VPure.len_map TI.und' rfl rfl) ?_ | refine VOps.vp (by rfl) (by kernel_rfl) (by rfl) (VPure.lss rfl rfl rfl) ?_)) | refine VCode.seq ?_ | refine VCode.region rfl ?_ | refine VCode.exit ?_ | (refine VCode.cond_f rfl ?cb ?_; (case cb => first | rfl | assumption | exact decide_eq_false (by omega) | (simp only [Bool.not_eq_false', decide_eq_true_eq]; omega)))))
      refine VCode.give hcx rfl rfl rfl rfl rfl ?_
      have : a = b := by
        rw [List.take_of_length_le hge, List.take_of_length_le (by omega)] at hs
        exact hs
      rw [decide_eq_true this]
end Go.Proofs.Ytilldpmlcgikdaa.V
/- read: Alts and wakes as the value layer's contracts. -/
namespace Go.Proofs.Ytilldpmlcgikdaa.V
open Go Go.RowKit Go.Proofs.Ytilldpmlcgikdaa.P Go.Proofs.YtilldpmlcgikdaaW.PrintWords
theorem out_bound {e : Int} {l : List Tok} {out : RS.Out Tok} (h : rrun e (.start, []) l = .ok out) : out.length ≤ 2 * l.length ∧ ∀ p ∈ out, p.2.length ≤ 2 * l.length := by
  obtain ⟨h0, h2, h3⟩ := RS.run_counts TkOf TaOf h
  have hc : ∀ k, RS.count TkOf k l ≤ l.length := fun k => List.countP_le_length
  have := hc 1; have := hc 2; have := hc 4; have := hc 5
  refine ⟨by omega, fun p hp => ?_⟩
  have hr : p.2.length ≤ RS.rights out := by
    clear h h0 h2 h3
    induction out with
    | nil => cases hp
    | cons q out ih =>
      simp only [RS.rights, List.map_cons, List.sum_cons]
      rcases List.mem_cons.1 hp with rfl | hp
      · omega
      · have := ih hp; simp only [RS.rights] at this; omega
  omega
theorem run_err {e : Int} (l : List Tok) : ∀ {s : RS.St Tok × RS.Out Tok} {c p : Int}, rrun e s l = .error (c, p) → c = 12 ∨ c = 14 := by
  induction l with
  | nil =>
    intro s c p h
    have h : RS.fin e s = .error (c, p) := h
    obtain ⟨st, out⟩ := s
    cases st <;> simp only [RS.fin] at h
    · split at h <;> cases h; exact .inl rfl
    · cases h; exact .inl rfl
    · cases h; exact .inl rfl
  | cons t l ih =>
    intro s c p h
    rw [rrun_cons] at h
    cases hs : RS.step TkOf TaOf s t with
    | ok s' => rw [hs] at h; exact ih h
    | error q =>
      rw [hs] at h
      obtain rfl := Except.error.inj h
      obtain ⟨st, out⟩ := s
      cases st <;> simp only [RS.step] at hs
      · split at hs <;> cases hs; exact .inl rfl
      · split at hs <;> cases hs; exact .inl rfl
      · split at hs
        · cases hs
        · split at hs
          · split at hs <;> cases hs; exact .inr rfl
          · cases hs; exact .inl rfl
/-- What is read ends in an end. -/
theorem run_end {e : Int} {l : List Tok} {out : RS.Out Tok} (h : rrun e (.start, []) l = .ok out) : ∃ l' t, l = l' ++ [t] ∧ t.f0 = 5 := by
  obtain ⟨h1, h2⟩ := RS.run_ok TkOf TaOf h
  rcases List.eq_nil_or_concat l with rfl | ⟨l', t, rfl⟩
  · simp [RS.steps] at h1; exact absurd h1 h2
  · rw [List.concat_eq_append] at h1 ⊢
    refine ⟨l', t, rfl, ?_⟩
    have := (RS.steps_where TkOf TaOf l' t _ _ h1).1
    simpa [RS.isStart] using this.symm
theorem run_ends {e : Int} {l : List Tok} {out : RS.Out Tok} (h : rrun e (.start, []) l = .ok out) : 1 ≤ RS.count TkOf 5 l := by
  obtain ⟨l', t, rfl, ht⟩ := run_end h
  simp [RS.count, List.countP_append, List.countP_cons, ht]
theorem tok_row {R : Addr → Value → Prop} (t : Tok) : rowRep R (encTok t) [.int .i64 t.f0, .string t.f1, .int .i64 t.f2] :=
  row_append (row_one (.val _ rfl)) (row_append (row_one (.val _ rfl)) (row_one (.val _ rfl)))
theorem tok_K {R : Addr → Value → Prop} {w : World} (t : Tok) (cs : List Value) (h : rowRep R (encTok t) cs) : Kd.K k38 w t cs := by
  obtain ⟨hl, h⟩ := h
  match cs, hl with
  | [a, b, c], _ =>
    have h0 := h 0 _ a rfl rfl
    have h1 := h 1 _ b rfl rfl
    have h2 := h 2 _ c rfl rfl
    cases h0; cases h1; cases h2
    exact k38_mk w t
theorem alt_row {R : Addr → Value → Prop} (x : Alt) {v : Value} (h : DRep R (.sl 3 (x.f1.map encTok)) v) : rowRep R (encAlt x) [.int .i64 x.f0.f0, .string x.f0.f1, .int .i64 x.f0.f2, v] :=
  row_append (row_one (.val _ rfl)) (row_append (row_one (.val _ rfl)) (row_append (row_one (.val _ rfl)) (row_one h)))
def altsV : Except (Int × Int) (RS.Out Tok) → V
  | .ok out => .tup [.sl 4 ((out.map altOf).map encAlt), .agg [.val (.int .i64 0), .val (.int .i64 0)]]
  | .error (c, p) => .tup [.sl 4 [], .agg [.val (.int .i64 c), .val (.int .i64 p)]]
theorem alts_v (l : List Tok) (e : Int) (hl : l.length ≤ 1000000000) : VCalls Try.prog 11 [.sl 3 (l.map encTok), .val (.int .i64 e)] [] 0 (Gives (altsV (rrun e (.start, []) l))) := fun z g w ms h1 h2 h3 => by
  obtain ⟨m0, m1, rfl⟩ : ∃ m0 m1, ms = #[m0, m1] := by
    match ms, h2 with
    | ⟨[a, b]⟩, _ => exact ⟨a, b, rfl⟩
  have v0 := h3 0 _ m0 rfl rfl
  have v1 := h3 1 _ m1 rfl rfl
  have e1 := v1.val_inv
  subst e1
  cases v0 with
  | sl _ _ _ hd =>
    obtain ⟨A, c, rfl, hc, hC⟩ := to_C (d := k38) (w := w) (fun a u h => h.cell) (fun x _ => rfl) (fun x _ cs h => tok_K x cs h) hd
    have fin : ∀ (r1 : List Alt) (r2 r3 : Int), read_Alts.f l e = some (r1, r2, r3) → r1.length ≤ most → (∀ x ∈ r1, x.f1.length ≤ most) → Calls Try.prog 11 #[.slice A l.length c, .int .i64 e] w fun e w' => ∃ g' h' x' out, HRep (cxOf z g [] 0 w) g' h' x' w' ∧ outRep (Rd z h' g' w') (gvOf h' g') x' out e ∧ Gives (.tup [.sl 4 (r1.map encAlt), .agg [.val (.int .i64 r2), .val (.int .i64 r3)]]) out h' x' := by
      intro r1 r2 r3 hf hb hb'
      refine (read_Alts.calls A c l e r1 r2 r3 w hC hc hf).mono ?_
      rintro e' w' ⟨v, rfl, hR, hbel⟩
      refine ⟨g, [], 0, _, h1.below hbel, ?_, rfl, rfl, rfl⟩
      have hrd := fresh_rd (z := z) (g := g) (w := w) (w' := w') (fun k hk => (h1.apz k hk).1)
      refine .tup _ _ rfl (fun i c m hc hm => ?_)
      match i, hc, hm with
      | 0, hc, hm =>
        obtain rfl := Option.some.inj hc
        obtain rfl := Option.some.inj hm
        refine .sl _ _ _ (of_R (d := k40) hrd (fun x _ => rfl) (fun x hx ok' cs hM => ?_) hb hR)
        obtain ⟨v3, rfl, hR3⟩ := k40_openM hM
        refine alt_row x (of_R (d := k38) hrd (fun x _ => rfl) (fun y _ ok'' cs' hM' => ?_) (hb' x hx) hR3)
        rw [k38_openM hM']
        exact tok_row y
      | 1, hc, hm =>
        obtain rfl := Option.some.inj hc
        obtain rfl := Option.some.inj hm
        refine .agg _ _ rfl (fun i c m hc hm => ?_)
        match i, hc, hm with
        | 0, hc, hm => obtain rfl := Option.some.inj hc; obtain rfl := Option.some.inj hm; exact .val _ rfl
        | 1, hc, hm => obtain rfl := Option.some.inj hc; obtain rfl := Option.some.inj hm; exact .val _ rfl
        | i + 2, hc, hm => cases hc
      | i + 2, hc, hm => cases hc
    cases hrun : rrun e (.start, []) l with
    | ok out =>
      obtain ⟨b1, b2⟩ := out_bound hrun
      refine fin (out.map altOf) 0 0 ?_ ?_ ?_
      · unfold read_Alts.f; rw [if_pos hl, hrun]
      · rw [List.length_map]; unfold most; omega
      · intro x hx
        obtain ⟨p, hp, rfl⟩ := List.mem_map.1 hx
        have := b2 p hp
        show p.2.length ≤ most
        unfold most; omega
    | error q =>
      obtain ⟨c', p⟩ := q
      refine fin [] c' p ?_ (by simp) (fun x hx => by cases hx)
      unfold read_Alts.f; rw [if_pos hl, hrun]
def altsOut : Except (Int × Int) (RS.Out Tok) → List Alt
  | .ok out => out.map altOf
  | .error _ => []
def altsE : Except (Int × Int) (RS.Out Tok) → Int
  | .ok _ => 0
  | .error q => q.1
def altsAt : Except (Int × Int) (RS.Out Tok) → Int
  | .ok _ => 0
  | .error q => q.2
theorem altsV_is (r : Except (Int × Int) (RS.Out Tok)) : altsV r = .tup [.sl 4 ((altsOut r).map encAlt), .agg [.val (.int .i64 (altsE r)), .val (.int .i64 (altsAt r))]] := by
  cases r <;> rfl
theorem alts_w (l : List Tok) (e : Int) (hl : l.length ≤ 1000000000) : VCalls Try.prog 11 [.sl 3 (l.map encTok), .val (.int .i64 e)] [] 0 (Gives (.tup [.sl 4 ((altsOut (rrun e (.start, []) l)).map encAlt), .agg [.val (.int .i64 (altsE (rrun e (.start, []) l))), .val (.int .i64 (altsAt (rrun e (.start, []) l)))]])) := by
  rw [← altsV_is]; exact alts_v l e hl
theorem altsE_zero {e : Int} {l : List Tok} (h : altsE (rrun e (.start, []) l) = 0) : ∃ out, rrun e (.start, []) l = .ok out := by
  cases hr : rrun e (.start, []) l with
  | ok out => exact ⟨out, rfl⟩
  | error q =>
    obtain ⟨c, p⟩ := q
    rw [hr] at h
    have h : c = 0 := h
    rcases run_err l hr with h' | h' <;> omega
theorem altsOut_bound (e : Int) (l : List Tok) : (altsOut (rrun e (.start, []) l)).length ≤ 2 * l.length ∧ ∀ x ∈ altsOut (rrun e (.start, []) l), x.f1.length ≤ 2 * l.length := by
  cases hr : rrun e (.start, []) l with
  | ok out =>
    obtain ⟨h1, h2⟩ := out_bound hr
    refine ⟨by rw [altsOut, List.length_map]; exact h1, fun x hx => ?_⟩
    obtain ⟨p, hp, rfl⟩ := List.mem_map.1 hx
    exact h2 p hp
  | error q => exact ⟨Nat.zero_le _, fun x hx => by cases hx⟩
/-- One behind the other. -/
theorem run_row {e : Int} {l m : List Tok} {a : RS.Out Tok} (hl : rrun e (.start, []) l = .ok a) (hm : m ≠ []) : (∃ p, rrun e (.start, []) (l ++ m) = .error (14, p) ∧ ∀ b, rrun e (.start, []) m = .ok b → 60 < a.length + b.length) ∨ rrun e (.start, []) (l ++ m) = (match rrun e (.start, []) m with | .ok b => .ok (a ++ b) | .error q => .error q) := by
  have h1 := (RS.run_ok TkOf TaOf hl).1
  have e1 : rrun e (.start, []) (l ++ m) = RS.run TkOf TaOf e (.start, a) m := by
    show RS.run _ _ _ _ _ = _
    unfold RS.run
    rw [RS.steps_append, h1]
  rw [e1]
  have hlast : ∀ s', RS.steps TkOf TaOf (.start, []) m = .ok s' → RS.isStart s'.1 = true → s'.2 ≠ [] := fun s' hs hst => by
    rcases List.eq_nil_or_concat m with h | ⟨m', t, rfl⟩
    · exact absurd h hm
    · rw [List.concat_eq_append] at hs
      have := RS.steps_where TkOf TaOf m' t _ _ hs
      rw [hst] at this
      exact this.2 (by simpa using this.1.symm)
  rcases RS.steps_ahead_err TkOf TaOf a m (.start, []) with ⟨p, hp⟩ | hp
  · left
    rw [List.append_nil] at hp
    refine ⟨p, by unfold RS.run; rw [hp], fun b hb => ?_⟩
    have h2 := (RS.run_ok TkOf TaOf hb).1
    rcases Nat.lt_or_ge 60 (a.length + b.length) with h | h
    · exact h
    · have := RS.steps_ahead TkOf TaOf a m _ _ h2 h
      simp only [List.append_nil] at this
      rw [hp] at this; cases this
  · right
    rw [List.append_nil] at hp
    show RS.run TkOf TaOf e (.start, a) m = (match RS.run TkOf TaOf e (.start, []) m with | .ok b => .ok (a ++ b) | .error q => .error q)
    unfold RS.run
    rw [hp]
    cases hs : RS.steps TkOf TaOf (.start, []) m with
    | error q => rfl
    | ok s' =>
      have hne := hlast s' hs
      obtain ⟨st, out⟩ := s'
      cases st with
      | start =>
        have hne : out ≠ [] := hne rfl
        simp [RS.fin, hne]
      | named x => rfl
      | body x r => rfl
theorem wakes_v : VCalls Try.prog 10 [] [] 0 (Gives (.val (.bool true))) := VCalls.printed rfl (fun R gv w ms _ hs _ => by
  have : ms = #[] := Array.eq_empty_of_size_eq_zero hs
  subst this
  exact topiaristlaw02_wakes.calls true w rfl)
section
variable {H : Type} {enc : TypeId × Value → H} {w : World} {spare : Nat → Bool} {held : Bool}
def goodTok (t : Tok) : Prop := (Lit.int .i64 t.f0).wf = true ∧ t.f1.size ≤ reachBytes ∧ (Lit.int .i64 t.f2).wf = true ∧ True
theorem open_tok : OpensD enc Try.prog w 0 spare held encTok 38 goodTok :=
  opensD_struct (good := fun p : Int × ByteArray × Int × Unit => (Lit.int .i64 p.1).wf = true ∧ p.2.1.size ≤ reachBytes ∧ (Lit.int .i64 p.2.2.1).wf = true ∧ True) (f := fun p : Int × ByteArray × Int × Unit => [.val (.int .i64 p.1)] ++ ([.val (.string p.2.1)] ++ ([.val (.int .i64 p.2.2.1)] ++ []))) (g := fun t : Tok => (t.f0, t.f1, t.f2, ())) (fun p => ⟨p.1, p.2.1, p.2.2.1⟩) (fun _ => rfl) (ti38).und (by kernel_rfl)
    (opensF_cons (m := 1) rfl (by kernel_rfl) (opensD_int ti3.und (by kernel_rfl)) (opensF_cons (m := 1) rfl (by kernel_rfl) (opensD_string ti9.und (by kernel_rfl)) (opensF_cons (m := 1) rfl (by kernel_rfl) (opensD_int ti3.und (by kernel_rfl)) opensF_nil)))
theorem open_toks : OpensD enc Try.prog w 0 spare held (fun l : List Tok => [.sl 3 (l.map encTok)]) 22 (fun l => (∀ a ∈ l, goodTok a) ∧ l.length * 32 ≤ reachBytes) :=
  opensD_slice ti22.und (by kernel_rfl) (by kernel_rfl) (by kernel_rfl) (by decide) open_tok
def goodAlt (x : Alt) : Prop := goodTok x.f0 ∧ ((∀ a ∈ x.f1, goodTok a) ∧ x.f1.length * 32 ≤ reachBytes) ∧ True
theorem open_alt : OpensD enc Try.prog w 0 spare held encAlt 40 goodAlt :=
  opensD_struct (good := fun p : Tok × List Tok × Unit => goodTok p.1 ∧ ((∀ a ∈ p.2.1, goodTok a) ∧ p.2.1.length * 32 ≤ reachBytes) ∧ True) (f := fun p : Tok × List Tok × Unit => encTok p.1 ++ ([.sl 3 (p.2.1.map encTok)] ++ [])) (g := fun x : Alt => (x.f0, x.f1, ())) (fun p => ⟨p.1, p.2.1⟩) (fun _ => rfl) (ti40).und (by kernel_rfl)
    (opensF_cons (m := 3) (f := encTok) (good := goodTok) (f' := fun p : List Tok × Unit => [.sl 3 (p.1.map encTok)] ++ []) (good' := fun p : List Tok × Unit => ((∀ a ∈ p.1, goodTok a) ∧ p.1.length * 32 ≤ reachBytes) ∧ True) rfl (by kernel_rfl) open_tok (opensF_cons (m := 1) (f := fun l : List Tok => [.sl 3 (l.map encTok)]) (f' := fun _ : Unit => []) (good := fun l : List Tok => (∀ a ∈ l, goodTok a) ∧ l.length * 32 ≤ reachBytes) (good' := fun _ => True) rfl (by kernel_rfl) open_toks opensF_nil))
theorem open_alts : OpensD enc Try.prog w 0 spare held (fun l : List Alt => [.sl 4 (l.map encAlt)]) 25 (fun l => (∀ a ∈ l, goodAlt a) ∧ l.length * 56 ≤ reachBytes) :=
  opensD_slice ti25.und (by kernel_rfl) (by kernel_rfl) (by kernel_rfl) (by decide) open_alt
theorem open_tokss : OpensD enc Try.prog w 0 spare held (fun l : List (List Tok) => [.sl 1 (l.map fun x => [.sl 3 (x.map encTok)])]) 42 (fun l => (∀ x ∈ l, (∀ a ∈ x, goodTok a) ∧ x.length * 32 ≤ reachBytes) ∧ l.length * 24 ≤ reachBytes) :=
  opensD_slice TI.und' (by kernel_rfl) (by kernel_rfl) (by kernel_rfl) (by decide) open_toks
theorem open_i64 : OpensD enc Try.prog w 0 spare held (fun n : Int => [.val (.int .i64 n)]) 3 (fun n => (Lit.int .i64 n).wf = true) := opensD_int ti3.und (by kernel_rfl)
theorem open_u8 : OpensD enc Try.prog w 0 spare held (fun n : Int => [.val (.int .u8 n)]) 5 (fun n => (Lit.int .u8 n).wf = true) := opensD_int ti5.und (by kernel_rfl)
end
end Go.Proofs.Ytilldpmlcgikdaa.V
