/- read: ReadBack. -/
import Derived.Test.YtilldpmlcgikdaaVCounts
set_option linter.unusedVariables false
set_option linter.unusedSimpArgs false
namespace Go.Proofs.Ytilldpmlcgikdaa.V
open Go Go.RowKit Go.Proofs.Ytilldpmlcgikdaa.P
def asName (t : Tok) : Tok := ⟨1, t.f1, t.f2⟩
def asWord (t : Tok) : Tok := if t.f0 = 2 then t else asName t
theorem asWord_kind (t : Tok) : TkOf (asWord t) = 1 ∨ TkOf (asWord t) = 2 := by
  unfold asWord
  by_cases h : t.f0 = 2
  · rw [if_pos h]; exact .inr h
  · rw [if_neg h]; exact .inl rfl
def isTok : Tok := ⟨3, ByteArray.empty, 0⟩
def endTok : Tok := ⟨5, ByteArray.empty, 0⟩
def defOf (a : Alt) : Tok × List Tok := (asName a.f0, a.f1.map asWord)
def backToks (l : List Alt) : List Tok := (l.map defOf).flatMap (RS.toks isTok endTok)
def back (l : List Alt) : List Alt := (l.map defOf).map altOf
theorem backToks_succ {l : List Alt} {k : Nat} {a : Alt} (h : l[k]? = some a) : backToks (l.take (k + 1)) = (backToks (l.take k) ++ (asName a.f0 :: isTok :: a.f1.map asWord)) ++ [endTok] := by
  unfold backToks
  rw [List.take_add_one, h]
  simp [RS.toks, defOf]
theorem back_succ {l : List Alt} {k : Nat} {a : Alt} (h : l[k]? = some a) : back (l.take (k + 1)) = back (l.take k) ++ [⟨asName a.f0, a.f1.map asWord⟩] := by
  unfold back
  rw [List.take_add_one, h]
  simp [defOf, altOf]
theorem backToks_len (l : List Alt) (h : ∀ a ∈ l, a.f1.length ≤ 8) : (backToks l).length ≤ 11 * l.length := by
  unfold backToks
  induction l with
  | nil => simp
  | cons a l ih =>
    have h1 := h a (by simp)
    have h2 := ih (fun b hb => h b (by simp [hb]))
    simp [RS.toks, defOf] at h2 ⊢
    omega
theorem back_len (l : List Alt) : (back l).length = l.length := by simp [back]
theorem back_good {l : List Alt} (h8 : ∀ a ∈ l, a.f1.length ≤ 8) : ∀ x ∈ l.map defOf, TkOf x.1 = 1 ∧ (∀ t ∈ x.2, TkOf t = 1 ∨ TkOf t = 2) ∧ x.2.length ≤ 8 := by
  intro x hx
  obtain ⟨a, ha, rfl⟩ := List.mem_map.1 hx
  refine ⟨rfl, fun t ht => ?_, by simpa [defOf] using h8 a ha⟩
  obtain ⟨u, _, rfl⟩ := List.mem_map.1 ht
  exact asWord_kind u
theorem back_run {l : List Alt} (hne : l ≠ []) (hl : l.length ≤ 60) (h8 : ∀ a ∈ l, a.f1.length ≤ 8) : rrun 7 (.start, []) (backToks l) = .ok (l.map defOf) := by
  show RS.run _ _ _ _ _ = _
  unfold RS.run backToks
  rw [RS.steps_defs TkOf TaOf isTok endTok (l.map defOf) rfl rfl [] (back_good h8) (by simpa using hl)]
  simp [RS.fin, hne]
theorem back_cut {l : List Alt} (hne : l ≠ []) (hl : l.length ≤ 60) (h8 : ∀ a ∈ l, a.f1.length ≤ 8) : rrun 7 (.start, []) ((backToks l).take ((backToks l).length - 1)) = .error (12, 7) := by
  rcases List.eq_nil_or_concat l with rfl | ⟨l', a, rfl⟩
  · exact absurd rfl hne
  · rw [List.concat_eq_append] at *
    have e : backToks (l' ++ [a]) = (backToks l' ++ (asName a.f0 :: isTok :: a.f1.map asWord)) ++ [endTok] := by
      simp [backToks, RS.toks, defOf]
    rw [e, List.length_append, List.length_singleton, Nat.add_sub_cancel, List.take_left' rfl]
    show RS.run _ _ _ _ _ = _
    unfold RS.run
    rw [RS.steps_append]
    have h8' : ∀ b ∈ l', b.f1.length ≤ 8 := fun b hb => h8 b (by simp [hb])
    simp only [List.length_append, List.length_singleton] at hl
    unfold backToks
    rw [RS.steps_defs TkOf TaOf isTok endTok (l'.map defOf) rfl rfl [] (back_good h8') (by simp; omega)]
    simp only
    have := RS.steps_open TkOf TaOf isTok (defOf a) ([] ++ l'.map defOf) rfl rfl (fun t ht => by obtain ⟨u, _, rfl⟩ := List.mem_map.1 ht; exact asWord_kind u)
    have e2 : (defOf a).1 :: isTok :: (defOf a).2 = asName a.f0 :: isTok :: a.f1.map asWord := rfl
    rw [e2] at this
    rw [this]
    rfl
set_option maxHeartbeats 4000000 in
theorem back_v (l : List Alt) (hl : l.length ≤ 140737488355328) : VCalls Try.prog 4 [.sl 4 (l.map encAlt)] [] 0 (Gives (.val (.bool true))) := by
  refine VCalls.enter (n := 138) Try.func4 rfl rfl (by simp) (fun cx hcx => ?_)
  (repeat (first | ((with_reducible refine VOps.same ?_); (first | (refine VOps.nil ?_; dsimp only [VThen, VBlock]) | refine VOps.vp (by rfl) (by kernel_rfl) (by rfl) (VPure.move rfl rfl) ?_ | refine VOps.vp (by rfl) (by kernel_rfl) (by rfl) (VPure.assign rfl rfl) ?_ | refine VOps.vp (by rfl) (by kernel_rfl) (by rfl) (VPure.len_map TI.und' rfl rfl) ?_ | refine VOps.vp (by rfl) (by kernel_rfl) (by rfl) (VPure.eqi rfl rfl rfl) ?_)) | refine VCode.seq ?_ | refine VCode.region rfl ?_))
  refine VOps.bool (d := 16) rfl (fun h1 => ?_) (fun h1 => ?_)
  · (repeat (first | ((with_reducible refine VOps.same ?_); (first | (refine VOps.nil ?_; dsimp only [VThen, VBlock]) | refine VOps.vp (by rfl) (by kernel_rfl) (by rfl) (VPure.pick_t rfl rfl rfl) ?_ | refine VOps.passv rfl (by kernel_rfl) rfl ?_))))
    refine VCode.cond_t rfl rfl ?_
    (repeat (first | refine VCode.seq ?_ | refine VCode.region rfl ?_)); refine VOps.pure rfl Try.func10 rfl (by kernel_rfl) rfl rfl rfl rfl rfl rfl rfl (wakes_v) ?_; (repeat (first | ((with_reducible refine VOps.same ?_); (first | (refine VOps.nil ?_; dsimp only [VThen, VBlock]) | refine VOps.vp (by rfl) (by kernel_rfl) (by rfl) (VPure.assign rfl rfl) ?_)))); refine VCode.give hcx rfl rfl rfl rfl rfl ?_; rfl
  have h1 : l ≠ [] := fun e => by rw [e] at h1; simp at h1
  (repeat (first | ((with_reducible refine VOps.same ?_); (first | (refine VOps.nil ?_; dsimp only [VThen, VBlock]) | refine VOps.vp (by rfl) (by kernel_rfl) (by rfl) (VPure.move rfl rfl) ?_ | refine VOps.vp (by rfl) (by kernel_rfl) (by rfl) (VPure.len_map TI.und' rfl rfl) ?_ | refine VOps.vp (by rfl) (by kernel_rfl) (by rfl) (VPure.gtr rfl rfl rfl) ?_ | refine VOps.vp (by rfl) (by kernel_rfl) (by rfl) (VPure.pick_f rfl rfl rfl) ?_))))
  refine VCode.cond rfl (fun h2 => ?_) (fun h2 => ?_)
  · (repeat (first | refine VCode.seq ?_ | refine VCode.region rfl ?_)); refine VOps.pure rfl Try.func10 rfl (by kernel_rfl) rfl rfl rfl rfl rfl rfl rfl (wakes_v) ?_; (repeat (first | ((with_reducible refine VOps.same ?_); (first | (refine VOps.nil ?_; dsimp only [VThen, VBlock]) | refine VOps.vp (by rfl) (by kernel_rfl) (by rfl) (VPure.assign rfl rfl) ?_)))); refine VCode.give hcx rfl rfl rfl rfl rfl ?_; rfl
  have h2 : l.length ≤ 60 := by
    have := of_decide_eq_false h2
    omega
  (repeat (first | ((with_reducible refine VOps.same ?_); (first | (refine VOps.nil ?_; dsimp only [VThen, VBlock]) | refine VOps.vp (by rfl) (by kernel_rfl) (by rfl) (VPure.assign rfl rfl) ?_)) | refine VCode.seq ?_ | refine VCode.region rfl ?_ | refine VCode.block ?_ | refine VCode.skip ?_))
  refine VCode.nilObj 3 38 3 rfl ?_
  refine VCode.nilObj 4 40 4 rfl ?_
  refine VCode.loop (fun m st => ∃ k : Nat, k ≤ l.length ∧ m = l.length - k ∧ (∀ a ∈ l.take k, a.f1.length ≤ 8) ∧ st = ⟨[(5, .val (.int .i64 (k : Int))), (0, .sl 4 (l.map encAlt)), (3, .ref 0), (4, .ref 1)], [(0, .arr 38 3 ((backToks (l.take k)).map encTok)), (1, .arr 40 4 ((back (l.take k)).map encAlt))], 2⟩) l.length ?_ ?_
  · (refine Less.mk (l := [0, 1]) hcx ?ss ?hh rfl (by decide) rfl ⟨0, by omega, by omega, by simp, rfl⟩; (case ss => repeat (first | exact SubS.nil | refine SubS.cons rfl rfl ?_ | refine SubS.cons (congrArg (fun z => some (V.val (Value.int IntKind.i64 z))) (by omega)) rfl ?_ | refine SubS.cons (congrArg (fun z => some (V.val (Value.bool z))) (by assumption)) rfl ?_)); (case hh => repeat (first | exact SubH.nil | refine SubH.cons rfl rfl rfl ?_)))
  rintro m st ⟨k, hk, rfl, h8, rfl⟩
  have hbl := backToks_len _ h8
  have hbk := back_len (l.take k)
  rw [List.length_take] at hbl hbk
  cases ha : l[k]? with
  | none =>
    have hge : l.length ≤ k := List.getElem?_eq_none_iff.1 ha
    obtain rfl : k = l.length := by omega
    rw [List.take_length] at *
    have hne : l ≠ [] := h1
    have hrun := back_run hne h2 h8
    have hcut := back_cut hne h2 h8
    have hlen : (backToks l).length ≤ 660 := by omega
    (repeat (first | ((with_reducible refine VOps.same ?_); (first | (refine VOps.nil ?_; dsimp only [VThen, VBlock]) | refine VOps.vp (by rfl) (by kernel_rfl) (by rfl) (VPure.move rfl rfl) ?_ | refine VOps.vp (by rfl) (by kernel_rfl) (by rfl) (VPure.len_map TI.und' rfl rfl) ?_ | refine VOps.vp (by rfl) (by kernel_rfl) (by rfl) (VPure.lss rfl rfl rfl) ?_)) | refine VCode.seq ?_ | refine VCode.region rfl ?_))
    refine VCode.cond_f rfl (decide_eq_false (by omega)) ?_
    refine VCode.freeze (id := 0) rfl ?_
    refine VCode.lessTo ⟨[(3, .sl 3 ((backToks l).map encTok)), (4, .ref 0)], [(0, .arr 40 4 ((back l).map encAlt))], 1⟩ ?_ ?_
    · (refine Less.mk (l := [1]) hcx ?ss ?hh rfl (by decide) rfl rfl; (case ss => repeat (first | exact SubS.nil | refine SubS.cons rfl rfl ?_ | refine SubS.cons (congrArg (fun z => some (V.val (Value.int IntKind.i64 z))) (by omega)) rfl ?_ | refine SubS.cons (congrArg (fun z => some (V.val (Value.bool z))) (by assumption)) rfl ?_)); (case hh => repeat (first | exact SubH.nil | refine SubH.cons rfl rfl rfl ?_)))
    (repeat (first | ((with_reducible refine VOps.same ?_); (first | refine VOps.vp (by rfl) (by kernel_rfl) (by rfl) (VPure.move rfl rfl) ?_)) | refine VCode.seq ?_ | refine VCode.region rfl ?_ | refine VCode.exit ?_))
    refine VOps.gives rfl Try.func11 rfl (by kernel_rfl) rfl rfl rfl rfl rfl rfl rfl rfl (by have := alts_v (backToks l) 7 (by omega); rw [hrun] at this; exact this) ?_
    (repeat (first | ((with_reducible refine VOps.same ?_); (first | (refine VOps.nil ?_; dsimp only [VThen, VBlock]) | refine VOps.vp (by rfl) (by kernel_rfl) (by rfl) (VPure.move rfl rfl) ?_ | refine VOps.vp (by rfl) (by kernel_rfl) (by rfl) (VPure.assign rfl rfl) ?_ | refine VOps.vp (by rfl) (by kernel_rfl) (by rfl) (VPure.extract rfl rfl rfl) ?_ | refine VOps.vp (by rfl) (by kernel_rfl) (by rfl) (VPure.field_ptr rfl rfl rfl) ?_ | refine VOps.vv (by rfl) (by kernel_rfl) (by rfl) (VLoad.box1 rfl rfl rfl rfl (by rfl) (by decide)) ?_ | refine VOps.vp (by rfl) (by kernel_rfl) (by rfl) (VPure.nei rfl rfl rfl) ?_ | refine VOps.alloc rfl rfl (by kernel_rfl) rfl (by kernel_rfl) rfl ?_ | refine VOps.store rfl rfl (by kernel_rfl) rfl rfl rfl rfl rfl rfl (Nat.le_of_ble_eq_true (by rfl)) rfl ?_)) | refine VCode.seq ?_ | refine VCode.region rfl ?_))
    refine VOps.pure rfl Try.func13 rfl (by kernel_rfl) rfl rfl rfl rfl rfl rfl rfl (keepAlts_v ((l.map defOf).map altOf) (back l) (by simp; omega) (fun x hx => by obtain ⟨a, ha, rfl⟩ := List.mem_map.1 (show x ∈ (l.map defOf).map altOf from hx); obtain ⟨b, hb, rfl⟩ := List.mem_map.1 ha; have := h8 b hb; simp [altOf, defOf]; omega)) ?_
    (repeat (first | ((with_reducible refine VOps.same ?_); (first | (refine VOps.nil ?_; dsimp only [VThen, VBlock]) | refine VOps.vp (by rfl) (by kernel_rfl) (by rfl) (VPure.not rfl rfl) ?_ | refine VOps.vp (by rfl) (by kernel_rfl) (by rfl) (VPure.pick_f rfl rfl rfl) ?_))))
    refine VCode.cond_f rfl (by simp [back]) ?_
    (repeat (first | ((with_reducible refine VOps.same ?_); (first | refine VOps.vp (by rfl) (by kernel_rfl) (by rfl) (VPure.move rfl rfl) ?_ | refine VOps.vp (by rfl) (by kernel_rfl) (by rfl) (VPure.len_map TI.und' rfl rfl) ?_ | refine VOps.vp (by rfl) (by kernel_rfl) (by rfl) (VPure.subK rfl rfl rfl (by omega)) ?_)) | refine VCode.seq ?_ | refine VCode.region rfl ?_ | refine VCode.skip ?_))
    have hl1 : 1 ≤ (backToks l).length := by
      cases hz : backToks l with
      | nil => rw [hz] at hrun; cases hrun
      | cons => simp
    refine VOps.says (d := 127) (v := .val (.int .i64 (((backToks l).length - 1 : Nat) : Int))) rfl (by rw [Int.ofNat_sub hl1]; rfl) ?_
    have hlen2 : ((backToks l).take ((backToks l).length - 1)).length ≤ 1000000000 := by rw [List.length_take]; omega
    (repeat (first | ((with_reducible refine VOps.same ?_); (first | (refine VOps.vp (by rfl) (by kernel_rfl) (by rfl) (VPure.cut_take rfl rfl rfl ?b1) ?_; (case b1 => (first | omega | (simp only [List.length_map, List.length_append, List.length_cons, List.length_nil] at *; omega) | (simp; omega))))))))
    refine VOps.gives rfl Try.func11 rfl (by kernel_rfl) rfl rfl rfl rfl rfl rfl rfl rfl (by have := alts_v ((backToks l).take ((backToks l).length - 1)) 7 hlen2; rw [hcut] at this; exact this) ?_
    (repeat (first | ((with_reducible refine VOps.same ?_); (first | (refine VOps.nil ?_; dsimp only [VThen, VBlock]) | refine VOps.vp (by rfl) (by kernel_rfl) (by rfl) (VPure.move rfl rfl) ?_ | refine VOps.vp (by rfl) (by kernel_rfl) (by rfl) (VPure.assign rfl rfl) ?_ | refine VOps.vp (by rfl) (by kernel_rfl) (by rfl) (VPure.extract rfl rfl rfl) ?_ | refine VOps.vv (by rfl) (by kernel_rfl) (by rfl) (VLoad.boxA rfl rfl rfl (by rfl) (Nat.le_of_ble_eq_true (by rfl)) (by decide)) ?_ | refine VOps.vp (by rfl) (by kernel_rfl) (by rfl) (VPure.eqA rfl rfl rfl (by rfl)) ?_ | refine VOps.vp (by rfl) (by kernel_rfl) (by rfl) (VPure.buildC rfl (by kernel_rfl) rfl (by rfl)) ?_ | refine VOps.alloc rfl rfl (by kernel_rfl) rfl (by kernel_rfl) rfl ?_ | refine VOps.store rfl rfl (by kernel_rfl) rfl rfl rfl rfl rfl rfl (Nat.le_of_ble_eq_true (by rfl)) rfl ?_)) | refine VCode.seq ?_ | refine VCode.region rfl ?_))
    refine VOps.says (d := 135) (v := .val (.bool true)) rfl rfl ?_
    skip; refine VOps.pure rfl Try.func10 rfl (by kernel_rfl) rfl rfl rfl rfl rfl rfl rfl (wakes_v) ?_; (repeat (first | ((with_reducible refine VOps.same ?_); (first | (refine VOps.nil ?_; dsimp only [VThen, VBlock]) | refine VOps.vp (by rfl) (by kernel_rfl) (by rfl) (VPure.assign rfl rfl) ?_ | refine VOps.vp (by rfl) (by kernel_rfl) (by rfl) (VPure.pick_t rfl rfl rfl) ?_)))); refine VCode.give hcx rfl rfl rfl rfl rfl ?_; rfl
  | some a =>
    have hlt : k < l.length := (List.getElem?_eq_some_iff.1 ha).1
    (repeat (first | ((with_reducible refine VOps.same ?_); (first | (refine VOps.nil ?_; dsimp only [VThen, VBlock]) | refine VOps.vp (by rfl) (by kernel_rfl) (by rfl) (VPure.move rfl rfl) ?_ | refine VOps.vp (by rfl) (by kernel_rfl) (by rfl) (VPure.len_map TI.und' rfl rfl) ?_ | refine VOps.vp (by rfl) (by kernel_rfl) (by rfl) (VPure.lss rfl rfl rfl) ?_)) | refine VCode.seq ?_ | refine VCode.region rfl ?_))
    refine VCode.cond_t rfl (decide_eq_true (by omega)) ?_
    (repeat (first | ((with_reducible refine VOps.same ?_); (first | refine VOps.vp (by rfl) (by kernel_rfl) (by rfl) (VPure.move rfl rfl) ?_ | refine VOps.vp (by rfl) (by kernel_rfl) (by rfl) (VPure.len_map TI.und' rfl rfl) ?_ | refine VOps.vp (by rfl) (by kernel_rfl) (by rfl) (VPure.idx_map rfl rfl rfl (by assumption)) ?_ | refine VOps.vp (by rfl) (by kernel_rfl) (by rfl) (VPure.field_el rfl rfl) ?_ | refine VOps.vv (by rfl) (by kernel_rfl) (by rfl) (VLoad.el1 rfl rfl rfl (by rfl)) ?_ | refine VOps.vp (by rfl) (by kernel_rfl) (by rfl) (VPure.gtr rfl rfl rfl) ?_)) | refine VCode.seq ?_ | refine VCode.region rfl ?_ | refine VCode.block ?_ | refine VCode.skip ?_))
    refine VOps.bool (d := 35) rfl (fun h3 => ?_) (fun h3 => ?_)
    · (repeat (first | ((with_reducible refine VOps.same ?_); (first | (refine VOps.nil ?_; dsimp only [VThen, VBlock]) | refine VOps.vp (by rfl) (by kernel_rfl) (by rfl) (VPure.move rfl rfl) ?_ | refine VOps.vp (by rfl) (by kernel_rfl) (by rfl) (VPure.pick_t rfl rfl rfl) ?_ | refine VOps.passv rfl (by kernel_rfl) rfl ?_))))
      refine VCode.cond_t rfl rfl ?_
      (repeat (first | refine VCode.seq ?_ | refine VCode.region rfl ?_)); refine VOps.pure rfl Try.func10 rfl (by kernel_rfl) rfl rfl rfl rfl rfl rfl rfl (wakes_v) ?_; (repeat (first | ((with_reducible refine VOps.same ?_); (first | (refine VOps.nil ?_; dsimp only [VThen, VBlock]) | refine VOps.vp (by rfl) (by kernel_rfl) (by rfl) (VPure.assign rfl rfl) ?_)))); refine VCode.give hcx rfl rfl rfl rfl rfl ?_; rfl
    have h3 : a.f1.length ≤ 8 := by
      have := of_decide_eq_false h3
      omega
    (repeat (first | ((with_reducible refine VOps.same ?_); (first | refine VOps.vp (by rfl) (by kernel_rfl) (by rfl) (VPure.move rfl rfl) ?_ | refine VOps.vp (by rfl) (by kernel_rfl) (by rfl) (VPure.idx_map rfl rfl rfl (by assumption)) ?_ | refine VOps.vp (by rfl) (by kernel_rfl) (by rfl) (VPure.field_el rfl rfl) ?_ | refine VOps.vv (by rfl) (by kernel_rfl) (by rfl) (VLoad.el1 rfl rfl rfl (by rfl)) ?_))))
    refine VOps.pure rfl Try.func9 rfl (by kernel_rfl) rfl rfl rfl rfl rfl rfl rfl (fair_v a.f1 (by omega)) ?_
    (repeat (first | ((with_reducible refine VOps.same ?_); (first | refine VOps.vp (by rfl) (by kernel_rfl) (by rfl) (VPure.move rfl rfl) ?_ | refine VOps.vp (by rfl) (by kernel_rfl) (by rfl) (VPure.not rfl rfl) ?_ | refine VOps.vp (by rfl) (by kernel_rfl) (by rfl) (VPure.pick_f rfl rfl rfl) ?_))))
    refine VOps.bool (d := 44) rfl (fun h4 => ?_) (fun h4 => ?_)
    · (repeat (first | ((with_reducible refine VOps.same ?_); (first | (refine VOps.nil ?_; dsimp only [VThen, VBlock]) | refine VOps.vp (by rfl) (by kernel_rfl) (by rfl) (VPure.pick_t rfl rfl rfl) ?_ | refine VOps.passv rfl (by kernel_rfl) rfl ?_))))
      refine VCode.cond_t rfl rfl ?_
      (repeat (first | refine VCode.seq ?_ | refine VCode.region rfl ?_)); refine VOps.pure rfl Try.func10 rfl (by kernel_rfl) rfl rfl rfl rfl rfl rfl rfl (wakes_v) ?_; (repeat (first | ((with_reducible refine VOps.same ?_); (first | (refine VOps.nil ?_; dsimp only [VThen, VBlock]) | refine VOps.vp (by rfl) (by kernel_rfl) (by rfl) (VPure.assign rfl rfl) ?_)))); refine VCode.give hcx rfl rfl rfl rfl rfl ?_; rfl
    (repeat (first | ((with_reducible refine VOps.same ?_); (first | (refine VOps.nil ?_; dsimp only [VThen, VBlock]) | refine VOps.vp (by rfl) (by kernel_rfl) (by rfl) (VPure.move rfl rfl) ?_ | refine VOps.vp (by rfl) (by kernel_rfl) (by rfl) (VPure.len_str TI.und' rfl rfl) ?_ | refine VOps.vp (by rfl) (by kernel_rfl) (by rfl) (VPure.idx_map rfl rfl rfl (by assumption)) ?_ | refine VOps.vp (by rfl) (by kernel_rfl) (by rfl) (VPure.field_el rfl rfl) ?_ | refine VOps.vv (by rfl) (by kernel_rfl) (by rfl) (VLoad.el1 rfl rfl rfl (by rfl)) ?_ | refine VOps.vp (by rfl) (by kernel_rfl) (by rfl) (VPure.gtr rfl rfl rfl) ?_ | refine VOps.vp (by rfl) (by kernel_rfl) (by rfl) (VPure.pick_f rfl rfl rfl) ?_))))
    refine VCode.cond rfl (fun h5 => ?_) (fun h5 => ?_)
    · (repeat (first | refine VCode.seq ?_ | refine VCode.region rfl ?_)); refine VOps.pure rfl Try.func10 rfl (by kernel_rfl) rfl rfl rfl rfl rfl rfl rfl (wakes_v) ?_; (repeat (first | ((with_reducible refine VOps.same ?_); (first | (refine VOps.nil ?_; dsimp only [VThen, VBlock]) | refine VOps.vp (by rfl) (by kernel_rfl) (by rfl) (VPure.assign rfl rfl) ?_)))); refine VCode.give hcx rfl rfl rfl rfl rfl ?_; rfl
    (repeat (first | ((with_reducible refine VOps.same ?_); (first | (refine VOps.nil ?_; dsimp only [VThen, VBlock]) | refine VOps.vp (by rfl) (by kernel_rfl) (by rfl) (VPure.move rfl rfl) ?_ | refine VOps.vp (by rfl) (by kernel_rfl) (by rfl) (VPure.idx_map rfl rfl rfl (by assumption)) ?_ | refine VOps.vp (by rfl) (by kernel_rfl) (by rfl) (VPure.field_el rfl rfl) ?_ | refine VOps.vp (by rfl) (by kernel_rfl) (by rfl) (VPure.field_ptr rfl rfl rfl) ?_ | refine VOps.vv (by rfl) (by kernel_rfl) (by rfl) (VLoad.elA rfl rfl (by rfl) (Nat.le_of_ble_eq_true (by rfl))) ?_ | refine VOps.vv (by rfl) (by kernel_rfl) (by rfl) (VLoad.boxA rfl rfl rfl (by rfl) (Nat.le_of_ble_eq_true (by rfl)) (by decide)) ?_ | refine VOps.vp (by rfl) (by kernel_rfl) (by rfl) (VPure.buildC rfl (by kernel_rfl) rfl (by rfl)) ?_ | refine VOps.alloc rfl rfl (by kernel_rfl) rfl (by kernel_rfl) rfl ?_ | refine VOps.store rfl rfl (by kernel_rfl) rfl rfl rfl rfl rfl rfl (Nat.le_of_ble_eq_true (by rfl)) rfl ?_)) | refine VCode.seq ?_ | refine VCode.region rfl ?_ | refine VCode.skip ?_))
    have hW : (backToks (l.take k)).length ≤ 660 := by omega
    have hB : (back (l.take k)).length ≤ 60 := by omega
    refine VOps.lit (rows := [encTok (asName a.f0), encTok isTok]) rfl rfl (by kernel_rfl) rfl (by kernel_rfl) (by rfl) (by decide) (by decide) rfl (by rfl) (by rfl) (by rfl) (by rfl) ?_
    refine VOps.append (zs := (backToks (l.take k) ++ [asName a.f0, isTok]).map encTok) rfl rfl (by kernel_rfl) rfl (by rfl) (by decide) rfl (.arr rfl) rfl (.arr rfl) (by simp only [List.length_append, List.length_cons, List.length_nil, List.length_map]; unfold most; omega) (by simp only [List.length_append, List.length_cons, List.length_nil, List.length_map]; unfold most; omega) rfl (by simp) ?_
    (repeat (first | ((with_reducible refine VOps.same ?_); (first | (refine VOps.nil ?_; dsimp only [VThen, VBlock]) | refine VOps.vp (by rfl) (by kernel_rfl) (by rfl) (VPure.assign rfl rfl) ?_)) | refine VCode.seq ?_ | refine VCode.region rfl ?_ | refine VCode.block ?_))
    refine VCode.nilCell (id := 2) 3 38 3 rfl rfl rfl rfl ?_
    refine VCode.loop (fun m st => ∃ j : Nat, j ≤ a.f1.length ∧ m = a.f1.length - j ∧ st = ⟨[(7, .val (.int .i64 (j : Int))), (5, .val (.int .i64 (k : Int))), (0, .sl 4 (l.map encAlt)), (3, .ref 0), (4, .ref 1), (6, .ptr 2 0)], [(0, .arr 38 3 ((backToks (l.take k) ++ (asName a.f0 :: isTok :: (a.f1.take j).map asWord)).map encTok)), (1, .arr 40 4 ((back (l.take k)).map encAlt)), (2, .cells 40 [.val (.int .i64 1), .val (.string a.f0.f1), .val (.int .i64 a.f0.f2), .ref 3]), (3, .arr 38 3 (((a.f1.take j).map asWord).map encTok))], 4⟩) a.f1.length ?_ ?_
    · (refine Less.mk (l := [4, 1, 2, 5]) hcx ?ss ?hh rfl (by decide) rfl ⟨0, by omega, by omega, rfl⟩; (case ss => repeat (first | exact SubS.nil | refine SubS.cons rfl rfl ?_ | refine SubS.cons (congrArg (fun z => some (V.val (Value.int IntKind.i64 z))) (by omega)) rfl ?_ | refine SubS.cons (congrArg (fun z => some (V.val (Value.bool z))) (by assumption)) rfl ?_)); (case hh => repeat (first | exact SubH.nil | refine SubH.cons rfl rfl rfl ?_)))
    rintro m st ⟨j, hj, rfl, rfl⟩
    have hR : (a.f1.take j).length ≤ 8 := by rw [List.length_take]; omega
    cases ht : a.f1[j]? with
    | some t =>
      have hlt2 : j < a.f1.length := (List.getElem?_eq_some_iff.1 ht).1
      (repeat (first | ((with_reducible refine VOps.same ?_); (first | (refine VOps.nil ?_; dsimp only [VThen, VBlock]) | refine VOps.vp (by rfl) (by kernel_rfl) (by rfl) (VPure.move rfl rfl) ?_ | refine VOps.vp (by rfl) (by kernel_rfl) (by rfl) (VPure.len_map TI.und' rfl rfl) ?_ | refine VOps.vp (by rfl) (by kernel_rfl) (by rfl) (VPure.idx_map rfl rfl rfl (by assumption)) ?_ | refine VOps.vp (by rfl) (by kernel_rfl) (by rfl) (VPure.field_el rfl rfl) ?_ | refine VOps.vv (by rfl) (by kernel_rfl) (by rfl) (VLoad.el1 rfl rfl rfl (by rfl)) ?_ | refine VOps.vp (by rfl) (by kernel_rfl) (by rfl) (VPure.lss rfl rfl rfl) ?_)) | refine VCode.seq ?_ | refine VCode.region rfl ?_))
      refine VCode.cond_t rfl (decide_eq_true (by omega)) ?_
      have htk : a.f1.take (j + 1) = a.f1.take j ++ [t] := by rw [List.take_add_one, ht]; rfl
      (repeat (first | ((with_reducible refine VOps.same ?_); (first | (refine VOps.nil ?_; dsimp only [VThen, VBlock]) | refine VOps.vp (by rfl) (by kernel_rfl) (by rfl) (VPure.move rfl rfl) ?_ | refine VOps.vp (by rfl) (by kernel_rfl) (by rfl) (VPure.idx_map rfl rfl rfl (by assumption)) ?_ | refine VOps.vp (by rfl) (by kernel_rfl) (by rfl) (VPure.field_el rfl rfl) ?_ | refine VOps.vp (by rfl) (by kernel_rfl) (by rfl) (VPure.field_ptr rfl rfl rfl) ?_ | refine VOps.vv (by rfl) (by kernel_rfl) (by rfl) (VLoad.el1 rfl rfl rfl (by rfl)) ?_ | refine VOps.vv (by rfl) (by kernel_rfl) (by rfl) (VLoad.box1 rfl rfl rfl rfl (by rfl) (by decide)) ?_ | refine VOps.vv (by rfl) (by kernel_rfl) (by rfl) (VLoad.elA rfl rfl (by rfl) (Nat.le_of_ble_eq_true (by rfl))) ?_ | refine VOps.vp (by rfl) (by kernel_rfl) (by rfl) (VPure.nei rfl rfl rfl) ?_ | refine VOps.alloc rfl rfl (by kernel_rfl) rfl (by kernel_rfl) rfl ?_ | refine VOps.store rfl rfl (by kernel_rfl) rfl rfl rfl rfl rfl rfl (Nat.le_of_ble_eq_true (by rfl)) rfl ?_)) | refine VCode.seq ?_ | refine VCode.region rfl ?_ | refine VCode.block ?_ | refine VCode.skip ?_))
      refine VCode.cond rfl (fun hb => ?_) (fun hb => ?_)
      · have hw : asWord t = asName t := if_neg (by simpa using hb)
        (repeat (first | ((with_reducible refine VOps.same ?_); (first | (refine VOps.nil ?_; dsimp only [VThen, VBlock]) | refine VOps.vp (by rfl) (by kernel_rfl) (by rfl) (VPure.field_ptr rfl rfl rfl) ?_ | refine VOps.vv (by rfl) (by kernel_rfl) (by rfl) (VLoad.box1 rfl rfl rfl rfl (by rfl) (by decide)) ?_ | refine VOps.vv (by rfl) (by kernel_rfl) (by rfl) (VLoad.boxA rfl rfl rfl (by rfl) (Nat.le_of_ble_eq_true (by rfl)) (by decide)) ?_ | refine VOps.store rfl rfl (by kernel_rfl) rfl rfl rfl rfl rfl rfl (Nat.le_of_ble_eq_true (by rfl)) rfl ?_ | refine VOps.one rfl rfl (by kernel_rfl) rfl (by rfl) (by decide) (by decide) rfl (by rfl) (by rfl) ?_)) | refine VCode.seq ?_ | refine VCode.region rfl ?_))
        refine VOps.append (zs := ((a.f1.take (j + 1)).map asWord).map encTok) rfl rfl (by kernel_rfl) rfl (by rfl) (by decide) rfl (.arr rfl) rfl (.arr rfl) (by simp only [List.length_append, List.length_cons, List.length_nil, List.length_map]; unfold most; omega) (by simp only [List.length_append, List.length_cons, List.length_nil, List.length_map]; unfold most; omega) rfl ( by rw [htk, List.map_append, List.map_append, List.map_singleton, List.map_singleton, hw]; rfl) ?_
        (repeat (first | ((with_reducible refine VOps.same ?_); (first | (refine VOps.nil ?_; dsimp only [VThen, VBlock]) | refine VOps.vp (by rfl) (by kernel_rfl) (by rfl) (VPure.move rfl rfl) ?_ | refine VOps.vp (by rfl) (by kernel_rfl) (by rfl) (VPure.field_ptr rfl rfl rfl) ?_ | refine VOps.vv (by rfl) (by kernel_rfl) (by rfl) (VLoad.boxA rfl rfl rfl (by rfl) (Nat.le_of_ble_eq_true (by rfl)) (by decide)) ?_ | refine VOps.store rfl rfl (by kernel_rfl) rfl rfl rfl rfl rfl rfl (Nat.le_of_ble_eq_true (by rfl)) rfl ?_ | refine VOps.one rfl rfl (by kernel_rfl) rfl (by rfl) (by decide) (by decide) rfl (by rfl) (by rfl) ?_)) | refine VCode.region rfl ?_))
        refine VOps.append (zs := (backToks (l.take k) ++ (asName a.f0 :: isTok :: (a.f1.take (j + 1)).map asWord)).map encTok) rfl rfl (by kernel_rfl) rfl (by rfl) (by decide) rfl (.arr rfl) rfl (.arr rfl) (by simp only [List.length_append, List.length_cons, List.length_nil, List.length_map]; unfold most; omega) (by simp only [List.length_append, List.length_cons, List.length_nil, List.length_map]; unfold most; omega) rfl ( by rw [htk]; simp [hw]; rfl) ?_
        (repeat (first | ((with_reducible refine VOps.same ?_); (first | (refine VOps.nil ?_; dsimp only [VThen, VBlock]) | refine VOps.vp (by rfl) (by kernel_rfl) (by rfl) (VPure.move rfl rfl) ?_ | refine VOps.vp (by rfl) (by kernel_rfl) (by rfl) (VPure.assign rfl rfl) ?_ | refine VOps.vp (by rfl) (by kernel_rfl) (by rfl) (VPure.addK rfl rfl rfl (by omega)) ?_)) | refine VCode.region rfl ?_))
        (refine Less.mk (l := [8, 1, 2, 6]) hcx ?ss ?hh rfl (by decide) rfl ⟨_, ?_, j + 1, by omega, rfl, rfl⟩; (case ss => repeat (first | exact SubS.nil | refine SubS.cons rfl rfl ?_ | refine SubS.cons (congrArg (fun z => some (V.val (Value.int IntKind.i64 z))) (by omega)) rfl ?_ | refine SubS.cons (congrArg (fun z => some (V.val (Value.bool z))) (by assumption)) rfl ?_)); (case hh => repeat (first | exact SubH.nil | refine SubH.cons rfl rfl rfl ?_)))
        omega
      · have hw : asWord t = t := if_pos (by simpa using hb)
        (repeat (first | ((with_reducible refine VOps.same ?_); (first | refine VOps.vp (by rfl) (by kernel_rfl) (by rfl) (VPure.field_ptr rfl rfl rfl) ?_ | refine VOps.vv (by rfl) (by kernel_rfl) (by rfl) (VLoad.box1 rfl rfl rfl rfl (by rfl) (by decide)) ?_ | refine VOps.vv (by rfl) (by kernel_rfl) (by rfl) (VLoad.boxA rfl rfl rfl (by rfl) (Nat.le_of_ble_eq_true (by rfl)) (by decide)) ?_ | refine VOps.one rfl rfl (by kernel_rfl) rfl (by rfl) (by decide) (by decide) rfl (by rfl) (by rfl) ?_)) | refine VCode.seq ?_ | refine VCode.region rfl ?_ | refine VCode.skip ?_))
        refine VOps.append (zs := ((a.f1.take (j + 1)).map asWord).map encTok) rfl rfl (by kernel_rfl) rfl (by rfl) (by decide) rfl (.arr rfl) rfl (.arr rfl) (by simp only [List.length_append, List.length_cons, List.length_nil, List.length_map]; unfold most; omega) (by simp only [List.length_append, List.length_cons, List.length_nil, List.length_map]; unfold most; omega) rfl ( by rw [htk, List.map_append, List.map_append, List.map_singleton, List.map_singleton, hw]; rfl) ?_
        (repeat (first | ((with_reducible refine VOps.same ?_); (first | (refine VOps.nil ?_; dsimp only [VThen, VBlock]) | refine VOps.vp (by rfl) (by kernel_rfl) (by rfl) (VPure.move rfl rfl) ?_ | refine VOps.vp (by rfl) (by kernel_rfl) (by rfl) (VPure.field_ptr rfl rfl rfl) ?_ | refine VOps.vv (by rfl) (by kernel_rfl) (by rfl) (VLoad.boxA rfl rfl rfl (by rfl) (Nat.le_of_ble_eq_true (by rfl)) (by decide)) ?_ | refine VOps.store rfl rfl (by kernel_rfl) rfl rfl rfl rfl rfl rfl (Nat.le_of_ble_eq_true (by rfl)) rfl ?_ | refine VOps.one rfl rfl (by kernel_rfl) rfl (by rfl) (by decide) (by decide) rfl (by rfl) (by rfl) ?_)) | refine VCode.region rfl ?_))
        refine VOps.append (zs := (backToks (l.take k) ++ (asName a.f0 :: isTok :: (a.f1.take (j + 1)).map asWord)).map encTok) rfl rfl (by kernel_rfl) rfl (by rfl) (by decide) rfl (.arr rfl) rfl (.arr rfl) (by simp only [List.length_append, List.length_cons, List.length_nil, List.length_map]; unfold most; omega) (by simp only [List.length_append, List.length_cons, List.length_nil, List.length_map]; unfold most; omega) rfl ( by rw [htk]; simp [hw]; rfl) ?_
        (repeat (first | ((with_reducible refine VOps.same ?_); (first | (refine VOps.nil ?_; dsimp only [VThen, VBlock]) | refine VOps.vp (by rfl) (by kernel_rfl) (by rfl) (VPure.move rfl rfl) ?_ | refine VOps.vp (by rfl) (by kernel_rfl) (by rfl) (VPure.assign rfl rfl) ?_ | refine VOps.vp (by rfl) (by kernel_rfl) (by rfl) (VPure.addK rfl rfl rfl (by omega)) ?_)) | refine VCode.region rfl ?_))
        (refine Less.mk (l := [8, 1, 2, 6]) hcx ?ss ?hh rfl (by decide) rfl ⟨_, ?_, j + 1, by omega, rfl, rfl⟩; (case ss => repeat (first | exact SubS.nil | refine SubS.cons rfl rfl ?_ | refine SubS.cons (congrArg (fun z => some (V.val (Value.int IntKind.i64 z))) (by omega)) rfl ?_ | refine SubS.cons (congrArg (fun z => some (V.val (Value.bool z))) (by assumption)) rfl ?_)); (case hh => repeat (first | exact SubH.nil | refine SubH.cons rfl rfl rfl ?_)))
        omega
    | none =>
      have hge : a.f1.length ≤ j := List.getElem?_eq_none_iff.1 ht
      obtain rfl : j = a.f1.length := by omega
      rw [List.take_length]
      (repeat (first | ((with_reducible refine VOps.same ?_); (first | (refine VOps.nil ?_; dsimp only [VThen, VBlock]) | refine VOps.vp (by rfl) (by kernel_rfl) (by rfl) (VPure.move rfl rfl) ?_ | refine VOps.vp (by rfl) (by kernel_rfl) (by rfl) (VPure.len_map TI.und' rfl rfl) ?_ | refine VOps.vp (by rfl) (by kernel_rfl) (by rfl) (VPure.idx_map rfl rfl rfl (by assumption)) ?_ | refine VOps.vp (by rfl) (by kernel_rfl) (by rfl) (VPure.field_el rfl rfl) ?_ | refine VOps.vv (by rfl) (by kernel_rfl) (by rfl) (VLoad.el1 rfl rfl rfl (by rfl)) ?_ | refine VOps.vp (by rfl) (by kernel_rfl) (by rfl) (VPure.lss rfl rfl rfl) ?_)) | refine VCode.seq ?_ | refine VCode.region rfl ?_))
      refine VCode.cond_f rfl (decide_eq_false (by omega)) ?_
      refine VCode.freeze (id := 3) rfl ?_
      refine VCode.lessTo ⟨[(5, .val (.int .i64 (k : Int))), (0, .sl 4 (l.map encAlt)), (3, .ref 0), (4, .ref 1), (6, .ptr 2 0)], [(0, .arr 38 3 ((backToks (l.take k) ++ (asName a.f0 :: isTok :: a.f1.map asWord)).map encTok)), (1, .arr 40 4 ((back (l.take k)).map encAlt)), (2, .cells 40 [.val (.int .i64 1), .val (.string a.f0.f1), .val (.int .i64 a.f0.f2), .sl 3 ((a.f1.map asWord).map encTok)])], 3⟩ ?_ ?_
      · (refine Less.mk (l := [0, 1, 2]) hcx ?ss ?hh rfl (by decide) rfl rfl; (case ss => repeat (first | exact SubS.nil | refine SubS.cons rfl rfl ?_ | refine SubS.cons (congrArg (fun z => some (V.val (Value.int IntKind.i64 z))) (by omega)) rfl ?_ | refine SubS.cons (congrArg (fun z => some (V.val (Value.bool z))) (by assumption)) rfl ?_)); (case hh => repeat (first | exact SubH.nil | refine SubH.cons rfl rfl rfl ?_)))
      (repeat (first | ((with_reducible refine VOps.same ?_); (first | refine VOps.vp (by rfl) (by kernel_rfl) (by rfl) (VPure.move rfl rfl) ?_ | refine VOps.vp (by rfl) (by kernel_rfl) (by rfl) (VPure.buildC rfl (by kernel_rfl) rfl (by rfl)) ?_ | refine VOps.one rfl rfl (by kernel_rfl) rfl (by rfl) (by decide) (by decide) rfl (by rfl) (by rfl) ?_)) | refine VCode.seq ?_ | refine VCode.region rfl ?_ | refine VCode.exit ?_))
      refine VOps.append (zs := (backToks (l.take (k + 1))).map encTok) rfl rfl (by kernel_rfl) rfl (by rfl) (by decide) rfl (.arr rfl) rfl (.arr rfl) (by simp only [List.length_append, List.length_cons, List.length_nil, List.length_map]; unfold most; omega) (by simp only [List.length_append, List.length_cons, List.length_nil, List.length_map]; unfold most; omega) rfl ( by rw [backToks_succ ha, List.map_append (l₂ := [endTok])]; rfl) ?_
      (repeat (first | ((with_reducible refine VOps.same ?_); (first | (refine VOps.nil ?_; dsimp only [VThen, VBlock]) | refine VOps.vp (by rfl) (by kernel_rfl) (by rfl) (VPure.move rfl rfl) ?_ | refine VOps.vp (by rfl) (by kernel_rfl) (by rfl) (VPure.assign rfl rfl) ?_ | refine VOps.vv (by rfl) (by kernel_rfl) (by rfl) (VLoad.boxA rfl rfl rfl (by rfl) (Nat.le_of_ble_eq_true (by rfl)) (by decide)) ?_ | refine VOps.one rfl rfl (by kernel_rfl) rfl (by rfl) (by decide) (by decide) rfl (by rfl) (by rfl) ?_)) | refine VCode.region rfl ?_))
      refine VOps.append (zs := (back (l.take (k + 1))).map encAlt) rfl rfl (by kernel_rfl) rfl (by rfl) (by decide) rfl (.arr rfl) rfl (.arr rfl) (by simp only [List.length_append, List.length_cons, List.length_nil, List.length_map]; unfold most; omega) (by simp only [List.length_append, List.length_cons, List.length_nil, List.length_map]; unfold most; omega) rfl ( by rw [back_succ ha, List.map_append]; rfl) ?_
      (repeat (first | ((with_reducible refine VOps.same ?_); (first | (refine VOps.nil ?_; dsimp only [VThen, VBlock]) | refine VOps.vp (by rfl) (by kernel_rfl) (by rfl) (VPure.move rfl rfl) ?_ | refine VOps.vp (by rfl) (by kernel_rfl) (by rfl) (VPure.assign rfl rfl) ?_ | refine VOps.vp (by rfl) (by kernel_rfl) (by rfl) (VPure.addK rfl rfl rfl (by omega)) ?_)) | refine VCode.region rfl ?_))
      (refine Less.mk (l := [4, 6]) hcx ?ss ?hh rfl (by decide) rfl ⟨_, ?_, k + 1, by omega, rfl, ?_, rfl⟩; (case ss => repeat (first | exact SubS.nil | refine SubS.cons rfl rfl ?_ | refine SubS.cons (congrArg (fun z => some (V.val (Value.int IntKind.i64 z))) (by omega)) rfl ?_ | refine SubS.cons (congrArg (fun z => some (V.val (Value.bool z))) (by assumption)) rfl ?_)); (case hh => repeat (first | exact SubH.nil | refine SubH.cons rfl rfl rfl ?_)))
      · omega
      · intro b hb
        rw [List.take_add_one, ha] at hb
        rcases List.mem_append.1 hb with h | h
        · exact h8 b h
        · obtain rfl := List.mem_singleton.1 h
          exact h3
-- LAW ReadBack back_law open_alts
theorem back_law (l : List Alt) (g : (∀ a ∈ l, goodAlt a) ∧ l.length * 56 ≤ reachBytes) : VCalls Try.prog 4 [.sl 4 (l.map encAlt)] [] 0 (Gives (.val (.bool true))) :=
  back_v l (by have := g.2; have h : reachBytes < 140737488355328 := reachBytes_lt; omega)
end Go.Proofs.Ytilldpmlcgikdaa.V
