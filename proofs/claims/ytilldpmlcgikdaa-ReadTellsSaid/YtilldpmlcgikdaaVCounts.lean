/- read: Fair; ReadCounts. -/
import Derived.Test.YtilldpmlcgikdaaVAlts
set_option linter.unusedVariables false
set_option linter.unusedSimpArgs false
namespace Go.Proofs.Ytilldpmlcgikdaa.V
open Go Go.RowKit Go.Proofs.Ytilldpmlcgikdaa.P
def fair (l : List Tok) : Bool := l.all (fun t => decide (t.f1.size ≤ 500)) && decide (l.length ≤ 700)
set_option maxHeartbeats 1000000 in
theorem fair_v (l : List Tok) (hl : l.length ≤ 140737488355328) : VCalls Try.prog 9 [.sl 3 (l.map encTok)] [] 0 (Gives (.val (.bool (fair l)))) := by
  refine VCalls.enter (n := 20) Try.func9 rfl rfl (by simp) (fun cx hcx => ?_)
  (repeat (first | ((with_reducible refine VOps.same ?_); (first | (refine VOps.nil ?_; dsimp only [VThen, VBlock]) | refine VOps.vp (by rfl) (by kernel_rfl) (by rfl) (VPure.assign rfl rfl) ?_)) | refine VCode.seq ?_ | refine VCode.region rfl ?_ | refine VCode.block ?_))
  refine VCode.loop (fun m st => ∃ k : Nat, k ≤ l.length ∧ m = l.length - k ∧ (∀ t ∈ l.take k, t.f1.size ≤ 500) ∧ st = ⟨[(3, .val (.int .i64 (k : Int))), (0, .sl 3 (l.map encTok))], [], 0⟩) l.length ?_ ?_
  · (refine Less.mk (l := []) hcx ?ss ?hh rfl (by decide) rfl ⟨0, by omega, by omega, by simp, rfl⟩; (case ss => repeat (first | exact SubS.nil | refine SubS.cons rfl rfl ?_ | refine SubS.cons (congrArg (fun z => some (V.val (Value.int IntKind.i64 z))) (by omega)) rfl ?_ | refine SubS.cons (congrArg (fun z => some (V.val (Value.bool z))) (by assumption)) rfl ?_)); (case hh => repeat (first | exact SubH.nil | refine SubH.cons rfl rfl rfl ?_)))
  rintro m st ⟨k, hk, rfl, ha, rfl⟩
  cases ht : l[k]? with
  | some t =>
    have hlt : k < l.length := (List.getElem?_eq_some_iff.1 ht).1
    (repeat (first | ((with_reducible refine VOps.same ?_); (first | (refine VOps.nil ?_; dsimp only [VThen, VBlock]) | refine VOps.vp (by rfl) (by kernel_rfl) (by rfl) (VPure.move rfl rfl) ?_ | refine VOps.vp (by rfl) (by kernel_rfl) (by rfl) (VPure.len_map TI.und' rfl rfl) ?_ | refine VOps.vp (by rfl) (by kernel_rfl) (by rfl) (VPure.lss rfl rfl rfl) ?_)) | refine VCode.seq ?_ | refine VCode.region rfl ?_))
    refine VCode.cond_t rfl (decide_eq_true (by omega)) ?_
    (repeat (first | ((with_reducible refine VOps.same ?_); (first | (refine VOps.nil ?_; dsimp only [VThen, VBlock]) | refine VOps.vp (by rfl) (by kernel_rfl) (by rfl) (VPure.move rfl rfl) ?_ | refine VOps.vp (by rfl) (by kernel_rfl) (by rfl) (VPure.len_str TI.und' rfl rfl) ?_ | refine VOps.vp (by rfl) (by kernel_rfl) (by rfl) (VPure.idx_map rfl rfl rfl (by assumption)) ?_ | refine VOps.vp (by rfl) (by kernel_rfl) (by rfl) (VPure.field_el rfl rfl) ?_ | refine VOps.vv (by rfl) (by kernel_rfl) (by rfl) (VLoad.el1 rfl rfl rfl (by rfl)) ?_ | refine VOps.vp (by rfl) (by kernel_rfl) (by rfl) (VPure.gtr rfl rfl rfl) ?_)) | refine VCode.seq ?_ | refine VCode.region rfl ?_ | refine VCode.block ?_ | refine VCode.skip ?_))
    refine VCode.cond rfl (fun hb => ?_) (fun hb => ?_)
    · (repeat (first | ((with_reducible refine VOps.same ?_); (first | (refine VOps.nil ?_; dsimp only [VThen, VBlock]) | refine VOps.vp (by rfl) (by kernel_rfl) (by rfl) (VPure.assign rfl rfl) ?_)) | refine VCode.seq ?_ | refine VCode.region rfl ?_))
      refine VCode.give hcx rfl rfl rfl rfl rfl ?_
      have : fair l = false := by
        simp only [decide_eq_true_eq] at hb
        have hm : t ∈ l := List.mem_of_getElem? ht
        cases hf : fair l with
        | false => rfl
        | true =>
          simp only [fair, Bool.and_eq_true, List.all_eq_true, decide_eq_true_eq] at hf
          have := hf.1 t hm
          omega
      rw [this]
    · (repeat (first | ((with_reducible refine VOps.same ?_); (first | (refine VOps.nil ?_; dsimp only [VThen, VBlock]) | refine VOps.vp (by rfl) (by kernel_rfl) (by rfl) (VPure.move rfl rfl) ?_ | refine VOps.vp (by rfl) (by kernel_rfl) (by rfl) (VPure.assign rfl rfl) ?_ | refine VOps.vp (by rfl) (by kernel_rfl) (by rfl) (VPure.addK rfl rfl rfl (by omega)) ?_)) | refine VCode.region rfl ?_ | refine VCode.skip ?_))
      (refine Less.mk (l := []) hcx ?ss ?hh rfl (by decide) rfl ⟨_, ?_, k + 1, by omega, rfl, ?_, rfl⟩; (case ss => repeat (first | exact SubS.nil | refine SubS.cons rfl rfl ?_ | refine SubS.cons (congrArg (fun z => some (V.val (Value.int IntKind.i64 z))) (by omega)) rfl ?_ | refine SubS.cons (congrArg (fun z => some (V.val (Value.bool z))) (by assumption)) rfl ?_)); (case hh => repeat (first | exact SubH.nil | refine SubH.cons rfl rfl rfl ?_)))
      · omega
      · intro u hu
        rw [List.take_add_one, ht] at hu
        rcases List.mem_append.1 hu with h | h
        · exact ha u h
        · obtain rfl := List.mem_singleton.1 h
          simp only [decide_eq_false_iff_not] at hb; omega
  | none =>
    have hge : l.length ≤ k := List.getElem?_eq_none_iff.1 ht
    (repeat (first | ((with_reducible refine VOps.same ?_); (first | (refine VOps.nil ?_; dsimp only [VThen, VBlock]) | refine VOps.vp (by rfl) (by kernel_rfl) (by rfl) (VPure.move rfl rfl) ?_ | refine VOps.vp (by rfl) (by kernel_rfl) (by rfl) (VPure.assign rfl rfl) ?_ | refine VOps.vp (by rfl) (by kernel_rfl) (by rfl) (VPure.len_map TI.und' rfl rfl) ?_ | refine VOps.vp (by rfl) (by kernel_rfl) (by rfl) (VPure.lss rfl rfl rfl) ?_ | refine VOps.vp (by rfl) (by kernel_rfl) (by rfl) (VPure.leq rfl rfl rfl) ?_)) | refine VCode.seq ?_ | refine VCode.region rfl ?_ | refine VCode.exit ?_ | (refine VCode.cond_f rfl ?cb ?_; (case cb => first | rfl | assumption | exact decide_eq_false (by omega) | (simp only [Bool.not_eq_false', decide_eq_true_eq]; omega)))))
    refine VCode.give hcx rfl rfl rfl rfl rfl ?_
    have : fair l = decide ((l.length : Int) ≤ 700) := by
      rw [List.take_of_length_le hge] at ha
      simp only [fair, List.all_eq_true.2 (fun t ht => decide_eq_true (ha t ht)), Bool.true_and]
      congr 1; exact propext (by omega)
    rw [this]

theorem fair_len {l : List Tok} (h : fair l = true) : l.length ≤ 700 ∧ ∀ t ∈ l, t.f1.size ≤ 500 := by
  simp only [fair, Bool.and_eq_true, List.all_eq_true, decide_eq_true_eq] at h
  exact ⟨h.2, h.1⟩
set_option maxHeartbeats 4000000 in
theorem counts_v (l : List Tok) (hl : l.length ≤ 140737488355328) : VCalls Try.prog 6 [.sl 3 (l.map encTok)] [] 0 (Gives (.val (.bool true))) := by
  refine VCalls.enter (n := 94) Try.func6 rfl rfl (by simp) (fun cx hcx => ?_)
  (repeat (first | ((with_reducible refine VOps.same ?_); (first | (refine VOps.nil ?_; dsimp only [VThen, VBlock]) | refine VOps.vp (by rfl) (by kernel_rfl) (by rfl) (VPure.move rfl rfl) ?_ | refine VOps.vp (by rfl) (by kernel_rfl) (by rfl) (VPure.assign rfl rfl) ?_)) | refine VCode.seq ?_ | refine VCode.region rfl ?_))
  refine VOps.pure rfl Try.func9 rfl (by kernel_rfl) rfl rfl rfl rfl rfl rfl rfl (fair_v l hl) ?_
  (repeat (first | ((with_reducible refine VOps.same ?_); (first | (refine VOps.nil ?_; dsimp only [VThen, VBlock]) | refine VOps.vp (by rfl) (by kernel_rfl) (by rfl) (VPure.not rfl rfl) ?_))))
  refine VCode.cond rfl (fun hf => ?_) (fun hf => ?_)
  · (repeat (first | refine VCode.seq ?_ | refine VCode.region rfl ?_))
    refine VOps.pure rfl Try.func10 rfl (by kernel_rfl) rfl rfl rfl rfl rfl rfl rfl (wakes_v) ?_
    (repeat (first | ((with_reducible refine VOps.same ?_); (first | (refine VOps.nil ?_; dsimp only [VThen, VBlock]) | refine VOps.vp (by rfl) (by kernel_rfl) (by rfl) (VPure.assign rfl rfl) ?_))))
    refine VCode.give hcx rfl rfl rfl rfl rfl ?_
    rfl
  have hfair : fair l = true := by simpa using hf
  obtain ⟨h700, h500⟩ := fair_len hfair
  cases hrun : rrun 0 (.start, []) l with
  | error q =>
    obtain ⟨c, p⟩ := q
    (repeat (first | ((with_reducible refine VOps.same ?_); (first | refine VOps.vp (by rfl) (by kernel_rfl) (by rfl) (VPure.move rfl rfl) ?_)) | refine VCode.seq ?_ | refine VCode.region rfl ?_ | refine VCode.skip ?_))
    refine VOps.gives rfl Try.func11 rfl (by kernel_rfl) rfl rfl rfl rfl rfl rfl rfl rfl (by have := alts_v l 0 (by omega); rw [hrun] at this; exact this) ?_
    (repeat (first | ((with_reducible refine VOps.same ?_); (first | (refine VOps.nil ?_; dsimp only [VThen, VBlock]) | refine VOps.vp (by rfl) (by kernel_rfl) (by rfl) (VPure.move rfl rfl) ?_ | refine VOps.vp (by rfl) (by kernel_rfl) (by rfl) (VPure.assign rfl rfl) ?_ | refine VOps.vp (by rfl) (by kernel_rfl) (by rfl) (VPure.extract rfl rfl rfl) ?_ | refine VOps.vp (by rfl) (by kernel_rfl) (by rfl) (VPure.field_ptr rfl rfl rfl) ?_ | refine VOps.vv (by rfl) (by kernel_rfl) (by rfl) (VLoad.box1 rfl rfl rfl rfl (by rfl) (by decide)) ?_ | refine VOps.vp (by rfl) (by kernel_rfl) (by rfl) (VPure.nei rfl rfl rfl) ?_ | refine VOps.alloc rfl rfl (by kernel_rfl) rfl (by kernel_rfl) rfl ?_ | refine VOps.store rfl rfl (by kernel_rfl) rfl rfl rfl rfl rfl rfl (Nat.le_of_ble_eq_true (by rfl)) rfl ?_)) | refine VCode.seq ?_ | refine VCode.region rfl ?_))
    have hc0 : c ≠ 0 := by rcases run_err l hrun with h | h <;> omega
    refine VCode.cond_t rfl (by simp [hc0]) ?_
    (repeat (first | ((with_reducible refine VOps.same ?_); (first | refine VOps.vp (by rfl) (by kernel_rfl) (by rfl) (VPure.move rfl rfl) ?_ | refine VOps.vp (by rfl) (by kernel_rfl) (by rfl) (VPure.len_sl TI.und' rfl rfl) ?_ | refine VOps.vp (by rfl) (by kernel_rfl) (by rfl) (VPure.eqi rfl rfl rfl) ?_)) | refine VCode.seq ?_ | refine VCode.region rfl ?_))
    refine VOps.says (d := 26) (v := .val (.bool true)) rfl (by simp) ?_
    skip
    refine VOps.pure rfl Try.func10 rfl (by kernel_rfl) rfl rfl rfl rfl rfl rfl rfl (wakes_v) ?_
    (repeat (first | ((with_reducible refine VOps.same ?_); (first | (refine VOps.nil ?_; dsimp only [VThen, VBlock]) | refine VOps.vp (by rfl) (by kernel_rfl) (by rfl) (VPure.assign rfl rfl) ?_ | refine VOps.vp (by rfl) (by kernel_rfl) (by rfl) (VPure.pick_t rfl rfl rfl) ?_))))
    refine VCode.give hcx rfl rfl rfl rfl rfl ?_
    rfl
  | ok out =>
    obtain ⟨hb1, hb2⟩ := out_bound hrun
    obtain ⟨hk1, hk2, hk3⟩ := RS.run_counts TkOf TaOf hrun
    have hne := (RS.run_ok TkOf TaOf hrun).2
    (repeat (first | ((with_reducible refine VOps.same ?_); (first | refine VOps.vp (by rfl) (by kernel_rfl) (by rfl) (VPure.move rfl rfl) ?_)) | refine VCode.seq ?_ | refine VCode.region rfl ?_ | refine VCode.skip ?_))
    refine VOps.gives rfl Try.func11 rfl (by kernel_rfl) rfl rfl rfl rfl rfl rfl rfl rfl (by have := alts_v l 0 (by omega); rw [hrun] at this; exact this) ?_
    (repeat (first | ((with_reducible refine VOps.same ?_); (first | (refine VOps.nil ?_; dsimp only [VThen, VBlock]) | refine VOps.vp (by rfl) (by kernel_rfl) (by rfl) (VPure.move rfl rfl) ?_ | refine VOps.vp (by rfl) (by kernel_rfl) (by rfl) (VPure.assign rfl rfl) ?_ | refine VOps.vp (by rfl) (by kernel_rfl) (by rfl) (VPure.extract rfl rfl rfl) ?_ | refine VOps.vp (by rfl) (by kernel_rfl) (by rfl) (VPure.field_ptr rfl rfl rfl) ?_ | refine VOps.vv (by rfl) (by kernel_rfl) (by rfl) (VLoad.box1 rfl rfl rfl rfl (by rfl) (by decide)) ?_ | refine VOps.vp (by rfl) (by kernel_rfl) (by rfl) (VPure.nei rfl rfl rfl) ?_ | refine VOps.alloc rfl rfl (by kernel_rfl) rfl (by kernel_rfl) rfl ?_ | refine VOps.store rfl rfl (by kernel_rfl) rfl rfl rfl rfl rfl rfl (Nat.le_of_ble_eq_true (by rfl)) rfl ?_)) | refine VCode.seq ?_ | refine VCode.region rfl ?_))
    refine VCode.cond_f rfl rfl ?_
    (repeat (first | ((with_reducible refine VOps.same ?_); (first | (refine VOps.nil ?_; dsimp only [VThen, VBlock]) | refine VOps.vp (by rfl) (by kernel_rfl) (by rfl) (VPure.assign rfl rfl) ?_)) | refine VCode.seq ?_ | refine VCode.region rfl ?_ | refine VCode.block ?_ | refine VCode.skip ?_))
    refine VCode.loop (fun m st => ∃ k : Nat, k ≤ l.length ∧ m = l.length - k ∧ st = ⟨[(8, .val (.int .i64 (k : Int))), (5, .val (.int .i64 ((RS.count TkOf 4 (l.take k) : Nat) : Int))), (6, .val (.int .i64 ((RS.count TkOf 5 (l.take k) : Nat) : Int))), (7, .val (.int .i64 ((RS.count TkOf 1 (l.take k) + RS.count TkOf 2 (l.take k) : Nat) : Int))), (0, .sl 3 (l.map encTok)), (3, .sl 4 ((out.map altOf).map encAlt))], [], 0⟩) l.length ?_ ?_
    · (refine Less.mk (l := []) hcx ?ss ?hh rfl (by decide) rfl ⟨0, by omega, by omega, rfl⟩; (case ss => repeat (first | exact SubS.nil | refine SubS.cons rfl rfl ?_ | refine SubS.cons (congrArg (fun z => some (V.val (Value.int IntKind.i64 z))) (by omega)) rfl ?_ | refine SubS.cons (congrArg (fun z => some (V.val (Value.bool z))) (by assumption)) rfl ?_)); (case hh => repeat (first | exact SubH.nil | refine SubH.cons rfl rfl rfl ?_)))
    rintro m st ⟨k, hk, rfl, rfl⟩
    cases ht : l[k]? with
    | some t =>
      have hlt : k < l.length := (List.getElem?_eq_some_iff.1 ht).1
      have hcnt : ∀ q, RS.count TkOf q (l.take (k + 1)) = RS.count TkOf q (l.take k) + if t.f0 = q then 1 else 0 := fun q => by
        rw [List.take_add_one, ht]
        simp [RS.count, List.countP_append, List.countP_cons]
      have hle : ∀ q, RS.count TkOf q (l.take k) ≤ k := fun q => Nat.le_trans List.countP_le_length (by rw [List.length_take]; omega)
      have := hle 1; have := hle 2; have := hle 4; have := hle 5
      (repeat (first | ((with_reducible refine VOps.same ?_); (first | (refine VOps.nil ?_; dsimp only [VThen, VBlock]) | refine VOps.vp (by rfl) (by kernel_rfl) (by rfl) (VPure.move rfl rfl) ?_ | refine VOps.vp (by rfl) (by kernel_rfl) (by rfl) (VPure.len_map TI.und' rfl rfl) ?_ | refine VOps.vp (by rfl) (by kernel_rfl) (by rfl) (VPure.lss rfl rfl rfl) ?_)) | refine VCode.seq ?_ | refine VCode.region rfl ?_))
      refine VCode.cond_t rfl (decide_eq_true (by omega)) ?_
      (repeat (first | ((with_reducible refine VOps.same ?_); (first | (refine VOps.nil ?_; dsimp only [VThen, VBlock]) | refine VOps.vp (by rfl) (by kernel_rfl) (by rfl) (VPure.move rfl rfl) ?_ | refine VOps.vp (by rfl) (by kernel_rfl) (by rfl) (VPure.assign rfl rfl) ?_ | refine VOps.vp (by rfl) (by kernel_rfl) (by rfl) (VPure.idx_map rfl rfl rfl (by assumption)) ?_ | refine VOps.vp (by rfl) (by kernel_rfl) (by rfl) (VPure.field_el rfl rfl) ?_ | refine VOps.vv (by rfl) (by kernel_rfl) (by rfl) (VLoad.el1 rfl rfl rfl (by rfl)) ?_ | refine VOps.vp (by rfl) (by kernel_rfl) (by rfl) (VPure.eqi rfl rfl rfl) ?_)) | refine VCode.seq ?_ | refine VCode.region rfl ?_ | refine VCode.block ?_ | refine VCode.skip ?_))
      refine VCode.cond rfl (fun hb => ?_) (fun hb4 => ?_)
      · have hb : t.f0 = 4 := by simpa using hb
        have e1 := hcnt 1; have e2 := hcnt 2; have e4 := hcnt 4; have e5 := hcnt 5
        simp [hb] at e1 e2 e4 e5
        (repeat (first | ((with_reducible refine VOps.same ?_); (first | (refine VOps.nil ?_; dsimp only [VThen, VBlock]) | refine VOps.vp (by rfl) (by kernel_rfl) (by rfl) (VPure.move rfl rfl) ?_ | refine VOps.vp (by rfl) (by kernel_rfl) (by rfl) (VPure.assign rfl rfl) ?_ | refine VOps.vp (by rfl) (by kernel_rfl) (by rfl) (VPure.addK rfl rfl rfl (by omega)) ?_)) | refine VCode.region rfl ?_))
        (refine Less.mk (l := []) hcx ?ss ?hh rfl (by decide) rfl ⟨_, ?_, k + 1, by omega, rfl, rfl⟩; (case ss => repeat (first | exact SubS.nil | refine SubS.cons rfl rfl ?_ | refine SubS.cons (congrArg (fun z => some (V.val (Value.int IntKind.i64 z))) (by omega)) rfl ?_ | refine SubS.cons (congrArg (fun z => some (V.val (Value.bool z))) (by assumption)) rfl ?_)); (case hh => repeat (first | exact SubH.nil | refine SubH.cons rfl rfl rfl ?_)))
        omega
      have hb4 : ¬ t.f0 = 4 := by simpa using hb4
      (repeat (first | ((with_reducible refine VOps.same ?_); (first | (refine VOps.nil ?_; dsimp only [VThen, VBlock]) | refine VOps.vp (by rfl) (by kernel_rfl) (by rfl) (VPure.assign rfl rfl) ?_ | refine VOps.vp (by rfl) (by kernel_rfl) (by rfl) (VPure.eqi rfl rfl rfl) ?_)) | refine VCode.seq ?_ | refine VCode.region rfl ?_))
      refine VCode.cond rfl (fun hb => ?_) (fun hb5 => ?_)
      · have hb : t.f0 = 5 := by simpa using hb
        have e1 := hcnt 1; have e2 := hcnt 2; have e4 := hcnt 4; have e5 := hcnt 5
        simp [hb] at e1 e2 e4 e5
        (repeat (first | ((with_reducible refine VOps.same ?_); (first | (refine VOps.nil ?_; dsimp only [VThen, VBlock]) | refine VOps.vp (by rfl) (by kernel_rfl) (by rfl) (VPure.move rfl rfl) ?_ | refine VOps.vp (by rfl) (by kernel_rfl) (by rfl) (VPure.assign rfl rfl) ?_ | refine VOps.vp (by rfl) (by kernel_rfl) (by rfl) (VPure.addK rfl rfl rfl (by omega)) ?_)) | refine VCode.region rfl ?_))
        (refine Less.mk (l := []) hcx ?ss ?hh rfl (by decide) rfl ⟨_, ?_, k + 1, by omega, rfl, rfl⟩; (case ss => repeat (first | exact SubS.nil | refine SubS.cons rfl rfl ?_ | refine SubS.cons (congrArg (fun z => some (V.val (Value.int IntKind.i64 z))) (by omega)) rfl ?_ | refine SubS.cons (congrArg (fun z => some (V.val (Value.bool z))) (by assumption)) rfl ?_)); (case hh => repeat (first | exact SubH.nil | refine SubH.cons rfl rfl rfl ?_)))
        omega
      have hb5 : ¬ t.f0 = 5 := by simpa using hb5
      (repeat (first | ((with_reducible refine VOps.same ?_); (first | (refine VOps.nil ?_; dsimp only [VThen, VBlock]) | refine VOps.vp (by rfl) (by kernel_rfl) (by rfl) (VPure.assign rfl rfl) ?_ | refine VOps.vp (by rfl) (by kernel_rfl) (by rfl) (VPure.eqi rfl rfl rfl) ?_)) | refine VCode.seq ?_ | refine VCode.region rfl ?_))
      refine VCode.cond rfl (fun hb => ?_) (fun hb1 => ?_)
      · have hb : t.f0 = 1 := by simpa using hb
        have e1 := hcnt 1; have e2 := hcnt 2; have e4 := hcnt 4; have e5 := hcnt 5
        simp [hb] at e1 e2 e4 e5
        (repeat (first | refine VCode.skip ?_))
        refine VCode.cond_t rfl (by simp [hb]) ?_
        (repeat (first | ((with_reducible refine VOps.same ?_); (first | (refine VOps.nil ?_; dsimp only [VThen, VBlock]) | refine VOps.vp (by rfl) (by kernel_rfl) (by rfl) (VPure.move rfl rfl) ?_ | refine VOps.vp (by rfl) (by kernel_rfl) (by rfl) (VPure.assign rfl rfl) ?_ | refine VOps.vp (by rfl) (by kernel_rfl) (by rfl) (VPure.addK rfl rfl rfl (by omega)) ?_)) | refine VCode.region rfl ?_))
        (refine Less.mk (l := []) hcx ?ss ?hh rfl (by decide) rfl ⟨_, ?_, k + 1, by omega, rfl, rfl⟩; (case ss => repeat (first | exact SubS.nil | refine SubS.cons rfl rfl ?_ | refine SubS.cons (congrArg (fun z => some (V.val (Value.int IntKind.i64 z))) (by omega)) rfl ?_ | refine SubS.cons (congrArg (fun z => some (V.val (Value.bool z))) (by assumption)) rfl ?_)); (case hh => repeat (first | exact SubH.nil | refine SubH.cons rfl rfl rfl ?_)))
        omega
      have hb1 : ¬ t.f0 = 1 := by simpa using hb1
      (repeat (first | ((with_reducible refine VOps.same ?_); (first | (refine VOps.nil ?_; dsimp only [VThen, VBlock]) | refine VOps.vp (by rfl) (by kernel_rfl) (by rfl) (VPure.assign rfl rfl) ?_ | refine VOps.vp (by rfl) (by kernel_rfl) (by rfl) (VPure.eqi rfl rfl rfl) ?_)) | refine VCode.region rfl ?_))
      refine VCode.cond rfl (fun hb => ?_) (fun hb2 => ?_)
      · have hb : t.f0 = 2 := by simpa using hb
        have e1 := hcnt 1; have e2 := hcnt 2; have e4 := hcnt 4; have e5 := hcnt 5
        simp [hb] at e1 e2 e4 e5
        (repeat (first | ((with_reducible refine VOps.same ?_); (first | (refine VOps.nil ?_; dsimp only [VThen, VBlock]) | refine VOps.vp (by rfl) (by kernel_rfl) (by rfl) (VPure.move rfl rfl) ?_ | refine VOps.vp (by rfl) (by kernel_rfl) (by rfl) (VPure.assign rfl rfl) ?_ | refine VOps.vp (by rfl) (by kernel_rfl) (by rfl) (VPure.addK rfl rfl rfl (by omega)) ?_)) | refine VCode.region rfl ?_))
        (refine Less.mk (l := []) hcx ?ss ?hh rfl (by decide) rfl ⟨_, ?_, k + 1, by omega, rfl, rfl⟩; (case ss => repeat (first | exact SubS.nil | refine SubS.cons rfl rfl ?_ | refine SubS.cons (congrArg (fun z => some (V.val (Value.int IntKind.i64 z))) (by omega)) rfl ?_ | refine SubS.cons (congrArg (fun z => some (V.val (Value.bool z))) (by assumption)) rfl ?_)); (case hh => repeat (first | exact SubH.nil | refine SubH.cons rfl rfl rfl ?_)))
        omega
      have hb2 : ¬ t.f0 = 2 := by simpa using hb2
      have e1 := hcnt 1; have e2 := hcnt 2; have e4 := hcnt 4; have e5 := hcnt 5
      simp [hb1, hb2, hb4, hb5] at e1 e2 e4 e5
      (repeat (first | ((with_reducible refine VOps.same ?_); (first | (refine VOps.nil ?_; dsimp only [VThen, VBlock]) | refine VOps.vp (by rfl) (by kernel_rfl) (by rfl) (VPure.move rfl rfl) ?_ | refine VOps.vp (by rfl) (by kernel_rfl) (by rfl) (VPure.assign rfl rfl) ?_ | refine VOps.vp (by rfl) (by kernel_rfl) (by rfl) (VPure.addK rfl rfl rfl (by omega)) ?_)) | refine VCode.region rfl ?_ | refine VCode.skip ?_))
      (refine Less.mk (l := []) hcx ?ss ?hh rfl (by decide) rfl ⟨_, ?_, k + 1, by omega, rfl, rfl⟩; (case ss => repeat (first | exact SubS.nil | refine SubS.cons rfl rfl ?_ | refine SubS.cons (congrArg (fun z => some (V.val (Value.int IntKind.i64 z))) (by omega)) rfl ?_ | refine SubS.cons (congrArg (fun z => some (V.val (Value.bool z))) (by assumption)) rfl ?_)); (case hh => repeat (first | exact SubH.nil | refine SubH.cons rfl rfl rfl ?_)))
      omega
    | none =>
      have hge : l.length ≤ k := List.getElem?_eq_none_iff.1 ht
      rw [List.take_of_length_le hge]
      (repeat (first | ((with_reducible refine VOps.same ?_); (first | (refine VOps.nil ?_; dsimp only [VThen, VBlock]) | refine VOps.vp (by rfl) (by kernel_rfl) (by rfl) (VPure.move rfl rfl) ?_ | refine VOps.vp (by rfl) (by kernel_rfl) (by rfl) (VPure.len_map TI.und' rfl rfl) ?_ | refine VOps.vp (by rfl) (by kernel_rfl) (by rfl) (VPure.lss rfl rfl rfl) ?_)) | refine VCode.seq ?_ | refine VCode.region rfl ?_))
      refine VCode.cond_f rfl (decide_eq_false (by omega)) ?_
      (repeat (first | ((with_reducible refine VOps.same ?_); (first | (refine VOps.nil ?_; dsimp only [VThen, VBlock]) | refine VOps.vp (by rfl) (by kernel_rfl) (by rfl) (VPure.assign rfl rfl) ?_)) | refine VCode.seq ?_ | refine VCode.region rfl ?_ | refine VCode.block ?_ | refine VCode.exit ?_))
      refine VCode.loop (fun m st => ∃ k : Nat, k ≤ out.length ∧ m = out.length - k ∧ st = ⟨[(10, .val (.int .i64 (k : Int))), (9, .val (.int .i64 ((RS.rights (out.take k) : Nat) : Int))), (5, .val (.int .i64 ((RS.count TkOf 4 l : Nat) : Int))), (6, .val (.int .i64 ((RS.count TkOf 5 l : Nat) : Int))), (7, .val (.int .i64 ((RS.count TkOf 1 l + RS.count TkOf 2 l : Nat) : Int))), (3, .sl 4 ((out.map altOf).map encAlt))], [], 0⟩) out.length ?_ ?_
      · (refine Less.mk (l := []) hcx ?ss ?hh rfl (by decide) rfl ⟨0, by omega, by omega, rfl⟩; (case ss => repeat (first | exact SubS.nil | refine SubS.cons rfl rfl ?_ | refine SubS.cons (congrArg (fun z => some (V.val (Value.int IntKind.i64 z))) (by omega)) rfl ?_ | refine SubS.cons (congrArg (fun z => some (V.val (Value.bool z))) (by assumption)) rfl ?_)); (case hh => repeat (first | exact SubH.nil | refine SubH.cons rfl rfl rfl ?_)))
      rintro m st ⟨k, hk, rfl, rfl⟩
      cases hp : out[k]? with
      | some p =>
        have hlt : k < out.length := (List.getElem?_eq_some_iff.1 hp).1
        have hx : (out.map altOf)[k]? = some (altOf p) := by rw [List.getElem?_map, hp]; rfl
        have hmem : p ∈ out := List.mem_of_getElem? hp
        have hr : RS.rights (out.take (k + 1)) = RS.rights (out.take k) + p.2.length := by
          rw [List.take_add_one, hp]
          simp [RS.rights]
        have hrl : ∀ (n : Nat), RS.rights (out.take n) ≤ RS.rights out := fun n => by
          have h1 : RS.rights (out.take n ++ out.drop n) = RS.rights (out.take n) + RS.rights (out.drop n) := by simp only [RS.rights, List.map_append, List.sum_append]
          rw [List.take_append_drop] at h1
          omega
        have := hrl (k + 1)
        have hc4 : RS.count TkOf 1 l ≤ l.length := List.countP_le_length
        have hc5 : RS.count TkOf 2 l ≤ l.length := List.countP_le_length
        have hpl : (altOf p).f1.length = p.2.length := rfl
        (repeat (first | ((with_reducible refine VOps.same ?_); (first | (refine VOps.nil ?_; dsimp only [VThen, VBlock]) | refine VOps.vp (by rfl) (by kernel_rfl) (by rfl) (VPure.move rfl rfl) ?_ | refine VOps.vp (by rfl) (by kernel_rfl) (by rfl) (VPure.len_map TI.und' rfl rfl) ?_ | refine VOps.vp (by rfl) (by kernel_rfl) (by rfl) (VPure.lss rfl rfl rfl) ?_)) | refine VCode.seq ?_ | refine VCode.region rfl ?_))
        refine VCode.cond_t rfl (decide_eq_true (by rw [List.length_map]; omega)) ?_
        (repeat (first | ((with_reducible refine VOps.same ?_); (first | (refine VOps.nil ?_; dsimp only [VThen, VBlock]) | refine VOps.vp (by rfl) (by kernel_rfl) (by rfl) (VPure.move rfl rfl) ?_ | refine VOps.vp (by rfl) (by kernel_rfl) (by rfl) (VPure.assign rfl rfl) ?_ | refine VOps.vp (by rfl) (by kernel_rfl) (by rfl) (VPure.len_map TI.und' rfl rfl) ?_ | refine VOps.vp (by rfl) (by kernel_rfl) (by rfl) (VPure.idx_map rfl rfl rfl (by assumption)) ?_ | refine VOps.vp (by rfl) (by kernel_rfl) (by rfl) (VPure.field_el rfl rfl) ?_ | refine VOps.vv (by rfl) (by kernel_rfl) (by rfl) (VLoad.el1 rfl rfl rfl (by rfl)) ?_ | refine VOps.vp (by rfl) (by kernel_rfl) (by rfl) (VPure.addK rfl rfl rfl (by omega)) ?_ | refine VOps.vp (by rfl) (by kernel_rfl) (by rfl) (VPure.nei rfl rfl rfl) ?_)) | refine VCode.seq ?_ | refine VCode.region rfl ?_ | refine VCode.block ?_ | refine VCode.skip ?_))
        refine VCode.cond_f rfl (by have := hk1 p hmem; simp [altOf, TkOf] at this ⊢; exact decide_eq_true this) ?_
        (repeat (first | ((with_reducible refine VOps.same ?_); (first | (refine VOps.nil ?_; dsimp only [VThen, VBlock]) | refine VOps.vp (by rfl) (by kernel_rfl) (by rfl) (VPure.move rfl rfl) ?_ | refine VOps.vp (by rfl) (by kernel_rfl) (by rfl) (VPure.assign rfl rfl) ?_ | refine VOps.vp (by rfl) (by kernel_rfl) (by rfl) (VPure.addK rfl rfl rfl (by omega)) ?_)) | refine VCode.region rfl ?_ | refine VCode.skip ?_))
        (refine Less.mk (l := []) hcx ?ss ?hh rfl (by decide) rfl ⟨_, ?_, k + 1, by omega, rfl, rfl⟩; (case ss => repeat (first | exact SubS.nil | refine SubS.cons rfl rfl ?_ | refine SubS.cons (congrArg (fun z => some (V.val (Value.int IntKind.i64 z))) (by omega)) rfl ?_ | refine SubS.cons (congrArg (fun z => some (V.val (Value.bool z))) (by assumption)) rfl ?_)); (case hh => repeat (first | exact SubH.nil | refine SubH.cons rfl rfl rfl ?_)))
        omega
      | none =>
        have hge : out.length ≤ k := List.getElem?_eq_none_iff.1 hp
        rw [List.take_of_length_le hge]
        (repeat (first | ((with_reducible refine VOps.same ?_); (first | (refine VOps.nil ?_; dsimp only [VThen, VBlock]) | refine VOps.vp (by rfl) (by kernel_rfl) (by rfl) (VPure.move rfl rfl) ?_ | refine VOps.vp (by rfl) (by kernel_rfl) (by rfl) (VPure.len_map TI.und' rfl rfl) ?_ | refine VOps.vp (by rfl) (by kernel_rfl) (by rfl) (VPure.lss rfl rfl rfl) ?_)) | refine VCode.seq ?_ | refine VCode.region rfl ?_))
        refine VCode.cond_f rfl (decide_eq_false (by rw [List.length_map]; omega)) ?_
        (repeat (first | ((with_reducible refine VOps.same ?_); (first | refine VOps.vp (by rfl) (by kernel_rfl) (by rfl) (VPure.move rfl rfl) ?_ | refine VOps.vp (by rfl) (by kernel_rfl) (by rfl) (VPure.len_map TI.und' rfl rfl) ?_ | refine VOps.vp (by rfl) (by kernel_rfl) (by rfl) (VPure.addK rfl rfl rfl (by omega)) ?_ | refine VOps.vp (by rfl) (by kernel_rfl) (by rfl) (VPure.eqi rfl rfl rfl) ?_)) | refine VCode.seq ?_ | refine VCode.region rfl ?_ | refine VCode.exit ?_))
        have hc1 : RS.count TkOf 1 l ≤ l.length := List.countP_le_length
        have hc2 : RS.count TkOf 2 l ≤ l.length := List.countP_le_length
        have hc4 : RS.count TkOf 4 l ≤ l.length := List.countP_le_length
        have hc5 : RS.count TkOf 5 l ≤ l.length := List.countP_le_length
        have hal : (out.map altOf).length = out.length := List.length_map ..
        refine VOps.says (d := 80) (v := .val (.bool true)) rfl (by rw [decide_eq_true]; omega) ?_
        (repeat (first | ((with_reducible refine VOps.same ?_); (first | refine VOps.vp (by rfl) (by kernel_rfl) (by rfl) (VPure.move rfl rfl) ?_ | refine VOps.vp (by rfl) (by kernel_rfl) (by rfl) (VPure.subK rfl rfl rfl (by omega)) ?_ | refine VOps.vp (by rfl) (by kernel_rfl) (by rfl) (VPure.eqi rfl rfl rfl) ?_ | refine VOps.vp (by rfl) (by kernel_rfl) (by rfl) (VPure.pick_t rfl rfl rfl) ?_))))
        refine VOps.says (d := 87) (v := .val (.bool true)) rfl (by rw [decide_eq_true]; omega) ?_
        (repeat (first | ((with_reducible refine VOps.same ?_); (first | refine VOps.vp (by rfl) (by kernel_rfl) (by rfl) (VPure.move rfl rfl) ?_ | refine VOps.vp (by rfl) (by kernel_rfl) (by rfl) (VPure.geq rfl rfl rfl) ?_ | refine VOps.vp (by rfl) (by kernel_rfl) (by rfl) (VPure.pick_t rfl rfl rfl) ?_))))
        refine VOps.says (d := 91) (v := .val (.bool true)) rfl (by rw [decide_eq_true]; have := run_ends hrun; omega) ?_
        skip
        refine VOps.pure rfl Try.func10 rfl (by kernel_rfl) rfl rfl rfl rfl rfl rfl rfl (wakes_v) ?_
        (repeat (first | ((with_reducible refine VOps.same ?_); (first | (refine VOps.nil ?_; dsimp only [VThen, VBlock]) | refine VOps.vp (by rfl) (by kernel_rfl) (by rfl) (VPure.assign rfl rfl) ?_ | refine VOps.vp (by rfl) (by kernel_rfl) (by rfl) (VPure.pick_t rfl rfl rfl) ?_))))
        refine VCode.give hcx rfl rfl rfl rfl rfl ?_
        rfl
-- LAW ReadCounts counts_law open_toks
theorem counts_law (l : List Tok) (g : (∀ a ∈ l, goodTok a) ∧ l.length * 32 ≤ reachBytes) : VCalls Try.prog 6 [.sl 3 (l.map encTok)] [] 0 (Gives (.val (.bool true))) :=
  counts_v l (by have := g.2; have h : reachBytes < 140737488355328 := reachBytes_lt; omega)
end Go.Proofs.Ytilldpmlcgikdaa.V
