/- read: ReadRow. -/
import Derived.Test.YtilldpmlcgikdaaVCounts
set_option linter.unusedVariables false
set_option linter.unusedSimpArgs false
namespace Go.Proofs.Ytilldpmlcgikdaa.V
open Go Go.RowKit Go.Proofs.Ytilldpmlcgikdaa.P
set_option maxHeartbeats 4000000 in
theorem row_v (l m : List Tok) (hl : l.length ≤ 140737488355328) (hm : m.length ≤ 140737488355328) : VCalls Try.prog 7 [.sl 3 (l.map encTok), .sl 3 (m.map encTok)] [] 0 (Gives (.val (.bool true))) := by
  refine VCalls.enter (n := 107) Try.func7 rfl rfl (by simp) (fun cx hcx => ?_)
  (repeat (first | refine VCode.seq ?_ | refine VCode.region rfl ?_ | (refine VOps.nil ?_; dsimp only [VThen, VBlock]) | refine VOps.vp rfl (by kernel_rfl) rfl (VPure.move rfl rfl) ?_ | refine VOps.vp rfl (by kernel_rfl) rfl (VPure.assign rfl rfl) ?_))
  refine VOps.pure rfl Try.func9 rfl (by kernel_rfl) rfl rfl rfl rfl rfl rfl rfl (fair_v l hl) ?_
  (repeat (first | refine VOps.vp rfl (by kernel_rfl) rfl (VPure.move rfl rfl) ?_ | refine VOps.vp rfl (by kernel_rfl) rfl (VPure.not rfl rfl) ?_))
  refine VOps.bool (d := 14) rfl (fun h1 => ?_) (fun h1 => ?_)
  · (repeat (first | (refine VOps.nil ?_; dsimp only [VThen, VBlock]) | refine VOps.vp rfl (by kernel_rfl) rfl (VPure.move rfl rfl) ?_ | refine VOps.vp rfl (by kernel_rfl) rfl (VPure.pick_t rfl rfl rfl) ?_ | refine VOps.passv rfl (by kernel_rfl) rfl ?_))
    refine VCode.cond_t rfl rfl ?_
    (repeat (first | refine VCode.seq ?_ | refine VCode.region rfl ?_)); refine VOps.pure rfl Try.func10 rfl (by kernel_rfl) rfl rfl rfl rfl rfl rfl rfl (wakes_v) ?_; (repeat (first | (refine VOps.nil ?_; dsimp only [VThen, VBlock]) | refine VOps.vp rfl (by kernel_rfl) rfl (VPure.assign rfl rfl) ?_)); refine VCode.give hcx rfl rfl rfl rfl rfl ?_; rfl
  (repeat (first | refine VOps.vp rfl (by kernel_rfl) rfl (VPure.move rfl rfl) ?_))
  refine VOps.pure rfl Try.func9 rfl (by kernel_rfl) rfl rfl rfl rfl rfl rfl rfl (fair_v m hm) ?_
  (repeat (first | refine VOps.vp rfl (by kernel_rfl) rfl (VPure.move rfl rfl) ?_ | refine VOps.vp rfl (by kernel_rfl) rfl (VPure.not rfl rfl) ?_ | refine VOps.vp rfl (by kernel_rfl) rfl (VPure.pick_f rfl rfl rfl) ?_))
  refine VOps.bool (d := 19) rfl (fun h2 => ?_) (fun h2 => ?_)
  · (repeat (first | (refine VOps.nil ?_; dsimp only [VThen, VBlock]) | refine VOps.vp rfl (by kernel_rfl) rfl (VPure.pick_t rfl rfl rfl) ?_ | refine VOps.passv rfl (by kernel_rfl) rfl ?_))
    refine VCode.cond_t rfl rfl ?_
    (repeat (first | refine VCode.seq ?_ | refine VCode.region rfl ?_)); refine VOps.pure rfl Try.func10 rfl (by kernel_rfl) rfl rfl rfl rfl rfl rfl rfl (wakes_v) ?_; (repeat (first | (refine VOps.nil ?_; dsimp only [VThen, VBlock]) | refine VOps.vp rfl (by kernel_rfl) rfl (VPure.assign rfl rfl) ?_)); refine VCode.give hcx rfl rfl rfl rfl rfl ?_; rfl
  (repeat (first | (refine VOps.nil ?_; dsimp only [VThen, VBlock]) | refine VOps.vp rfl (by kernel_rfl) rfl (VPure.move rfl rfl) ?_ | refine VOps.vp rfl (by kernel_rfl) rfl (VPure.len_map TI.und' rfl rfl) ?_ | refine VOps.vp rfl (by kernel_rfl) rfl (VPure.addK rfl rfl rfl (by omega)) ?_ | refine VOps.vp rfl (by kernel_rfl) rfl (VPure.gtr rfl rfl rfl) ?_ | refine VOps.vp rfl (by kernel_rfl) rfl (VPure.pick_f rfl rfl rfl) ?_))
  refine VCode.cond rfl (fun h3 => ?_) (fun h3 => ?_)
  · (repeat (first | refine VCode.seq ?_ | refine VCode.region rfl ?_)); refine VOps.pure rfl Try.func10 rfl (by kernel_rfl) rfl rfl rfl rfl rfl rfl rfl (wakes_v) ?_; (repeat (first | (refine VOps.nil ?_; dsimp only [VThen, VBlock]) | refine VOps.vp rfl (by kernel_rfl) rfl (VPure.assign rfl rfl) ?_)); refine VCode.give hcx rfl rfl rfl rfl rfl ?_; rfl
  have h3 : l.length + m.length ≤ 600 := by
    have : ¬ (600 < (l.length : Int) + m.length) := of_decide_eq_false h3
    omega
  obtain ⟨bl, bl'⟩ := altsOut_bound 7 l
  obtain ⟨bm, bm'⟩ := altsOut_bound 7 m
  (repeat (first | refine VCode.seq ?_ | refine VCode.region rfl ?_ | refine VOps.vp rfl (by kernel_rfl) rfl (VPure.move rfl rfl) ?_ | refine VCode.skip ?_))
  refine VOps.gives rfl Try.func11 rfl (by kernel_rfl) rfl rfl rfl rfl rfl rfl rfl rfl (alts_w l 7 (by omega)) ?_
  (repeat (first | refine VCode.seq ?_ | refine VCode.region rfl ?_ | (refine VOps.nil ?_; dsimp only [VThen, VBlock]) | refine VOps.vp rfl (by kernel_rfl) rfl (VPure.move rfl rfl) ?_ | refine VOps.vp rfl (by kernel_rfl) rfl (VPure.assign rfl rfl) ?_ | refine VOps.vp rfl (by kernel_rfl) rfl (VPure.extract rfl rfl rfl) ?_ | refine VOps.alloc rfl rfl (by kernel_rfl) rfl (by kernel_rfl) rfl ?_ | refine VOps.store rfl rfl (by kernel_rfl) rfl rfl rfl rfl rfl rfl (Nat.le_of_ble_eq_true (by rfl)) rfl ?_))
  refine VOps.gives rfl Try.func11 rfl (by kernel_rfl) rfl rfl rfl rfl rfl rfl rfl rfl (alts_w m 7 (by omega)) ?_
  (repeat (first | refine VCode.seq ?_ | refine VCode.region rfl ?_ | (refine VOps.nil ?_; dsimp only [VThen, VBlock]) | refine VOps.vp rfl (by kernel_rfl) rfl (VPure.move rfl rfl) ?_ | refine VOps.vp rfl (by kernel_rfl) rfl (VPure.assign rfl rfl) ?_ | refine VOps.vp rfl (by kernel_rfl) rfl (VPure.extract rfl rfl rfl) ?_ | refine VOps.vp rfl (by kernel_rfl) rfl (VPure.field_ptr rfl rfl rfl) ?_ | refine VOps.vv rfl (by kernel_rfl) rfl (VLoad.box1 rfl rfl rfl rfl (by rfl) (by decide)) ?_ | refine VOps.vp rfl (by kernel_rfl) rfl (VPure.nei rfl rfl rfl) ?_ | refine VOps.alloc rfl rfl (by kernel_rfl) rfl (by kernel_rfl) rfl ?_ | refine VOps.store rfl rfl (by kernel_rfl) rfl rfl rfl rfl rfl rfl (Nat.le_of_ble_eq_true (by rfl)) rfl ?_))
  refine VOps.bool (d := 41) rfl (fun h4 => ?_) (fun h4 => ?_)
  · (repeat (first | (refine VOps.nil ?_; dsimp only [VThen, VBlock]) | refine VOps.vp rfl (by kernel_rfl) rfl (VPure.pick_t rfl rfl rfl) ?_ | refine VOps.passv rfl (by kernel_rfl) rfl ?_))
    refine VCode.cond_t rfl rfl ?_
    (repeat (first | refine VCode.seq ?_ | refine VCode.region rfl ?_)); refine VOps.pure rfl Try.func10 rfl (by kernel_rfl) rfl rfl rfl rfl rfl rfl rfl (wakes_v) ?_; (repeat (first | (refine VOps.nil ?_; dsimp only [VThen, VBlock]) | refine VOps.vp rfl (by kernel_rfl) rfl (VPure.assign rfl rfl) ?_)); refine VCode.give hcx rfl rfl rfl rfl rfl ?_; rfl
  (repeat (first | (refine VOps.nil ?_; dsimp only [VThen, VBlock]) | refine VOps.vp rfl (by kernel_rfl) rfl (VPure.move rfl rfl) ?_ | refine VOps.vp rfl (by kernel_rfl) rfl (VPure.len_map TI.und' rfl rfl) ?_ | refine VOps.vp rfl (by kernel_rfl) rfl (VPure.eqi rfl rfl rfl) ?_ | refine VOps.vp rfl (by kernel_rfl) rfl (VPure.pick_f rfl rfl rfl) ?_))
  refine VCode.cond rfl (fun h5 => ?_) (fun h5 => ?_)
  · (repeat (first | refine VCode.seq ?_ | refine VCode.region rfl ?_)); refine VOps.pure rfl Try.func10 rfl (by kernel_rfl) rfl rfl rfl rfl rfl rfl rfl (wakes_v) ?_; (repeat (first | (refine VOps.nil ?_; dsimp only [VThen, VBlock]) | refine VOps.vp rfl (by kernel_rfl) rfl (VPure.assign rfl rfl) ?_)); refine VCode.give hcx rfl rfl rfl rfl rfl ?_; rfl
  (repeat (first | refine VCode.seq ?_ | refine VCode.region rfl ?_ | refine VCode.skip ?_))
  refine VOps.lit (rows := []) rfl rfl (by kernel_rfl) rfl (by kernel_rfl) (by rfl) (by decide) (by decide) rfl (by rfl) (by rfl) (by rfl) (by rfl) ?_
  (repeat (first | refine VOps.vp rfl (by kernel_rfl) rfl (VPure.move rfl rfl) ?_))
  refine VOps.append (zs := l.map encTok) rfl rfl (by kernel_rfl) rfl (by rfl) (by decide) rfl (.arr rfl) rfl (.sl) (by simp only [List.length_append, List.length_cons, List.length_nil, List.length_map]; unfold most; omega) (by simp only [List.length_append, List.length_cons, List.length_nil, List.length_map]; unfold most; omega) rfl (by simp) ?_
  (repeat (first | refine VOps.vp rfl (by kernel_rfl) rfl (VPure.move rfl rfl) ?_))
  refine VOps.append (zs := (l ++ m).map encTok) rfl rfl (by kernel_rfl) rfl (by rfl) (by decide) rfl (.arr rfl) rfl (.sl) (by simp only [List.length_append, List.length_cons, List.length_nil, List.length_map]; unfold most; omega) (by simp only [List.length_append, List.length_cons, List.length_nil, List.length_map]; unfold most; omega) rfl (by simp) ?_
  refine VOps.freeze (id := 4) rfl ?_
  refine VOps.gives rfl Try.func11 rfl (by kernel_rfl) rfl rfl rfl rfl rfl rfl rfl rfl (alts_w (l ++ m) 7 (by rw [List.length_append]; omega)) ?_
  (repeat (first | refine VCode.seq ?_ | refine VCode.region rfl ?_ | (refine VOps.nil ?_; dsimp only [VThen, VBlock]) | refine VOps.vp rfl (by kernel_rfl) rfl (VPure.move rfl rfl) ?_ | refine VOps.vp rfl (by kernel_rfl) rfl (VPure.assign rfl rfl) ?_ | refine VOps.vp rfl (by kernel_rfl) rfl (VPure.extract rfl rfl rfl) ?_ | refine VOps.vp rfl (by kernel_rfl) rfl (VPure.field_ptr rfl rfl rfl) ?_ | refine VOps.vv rfl (by kernel_rfl) rfl (VLoad.box1 rfl rfl rfl rfl (by rfl) (by decide)) ?_ | refine VOps.vp rfl (by kernel_rfl) rfl (VPure.eqi rfl rfl rfl) ?_ | refine VOps.alloc rfl rfl (by kernel_rfl) rfl (by kernel_rfl) rfl ?_ | refine VOps.store rfl rfl (by kernel_rfl) rfl rfl rfl rfl rfl rfl (Nat.le_of_ble_eq_true (by rfl)) rfl ?_))
  refine VOps.bool (d := 59) rfl (fun h6 => ?_) (fun h6 => ?_)
  · (repeat (first | refine VOps.vp rfl (by kernel_rfl) rfl (VPure.move rfl rfl) ?_ | refine VOps.vp rfl (by kernel_rfl) rfl (VPure.len_map TI.und' rfl rfl) ?_ | refine VOps.vp rfl (by kernel_rfl) rfl (VPure.addK rfl rfl rfl (by omega)) ?_ | refine VOps.vp rfl (by kernel_rfl) rfl (VPure.gtr rfl rfl rfl) ?_ | refine VOps.vp rfl (by kernel_rfl) rfl (VPure.pick_t rfl rfl rfl) ?_))
    refine VOps.bool (d := 67) rfl (fun h7 => ?_) (fun h7 => ?_)
    · (repeat (first | (refine VOps.nil ?_; dsimp only [VThen, VBlock]) | refine VOps.vp rfl (by kernel_rfl) rfl (VPure.pick_t rfl rfl rfl) ?_ | refine VOps.passv rfl (by kernel_rfl) rfl ?_))
      refine VCode.cond_t rfl rfl ?_
      (repeat (first | refine VCode.seq ?_ | refine VCode.region rfl ?_)); refine VOps.pure rfl Try.func10 rfl (by kernel_rfl) rfl rfl rfl rfl rfl rfl rfl (wakes_v) ?_; (repeat (first | (refine VOps.nil ?_; dsimp only [VThen, VBlock]) | refine VOps.vp rfl (by kernel_rfl) rfl (VPure.assign rfl rfl) ?_)); refine VCode.give hcx rfl rfl rfl rfl rfl ?_; rfl
    (repeat (first | (refine VOps.nil ?_; dsimp only [VThen, VBlock]) | refine VOps.vp rfl (by kernel_rfl) rfl (VPure.move rfl rfl) ?_ | refine VOps.vp rfl (by kernel_rfl) rfl (VPure.len_map TI.und' rfl rfl) ?_ | refine VOps.vp rfl (by kernel_rfl) rfl (VPure.geq rfl rfl rfl) ?_ | refine VOps.vp rfl (by kernel_rfl) rfl (VPure.pick_f rfl rfl rfl) ?_))
    refine VCode.cond rfl (fun h8 => ?_) (fun h8 => ?_)
    · (repeat (first | refine VCode.seq ?_ | refine VCode.region rfl ?_)); refine VOps.pure rfl Try.func10 rfl (by kernel_rfl) rfl rfl rfl rfl rfl rfl rfl (wakes_v) ?_; (repeat (first | (refine VOps.nil ?_; dsimp only [VThen, VBlock]) | refine VOps.vp rfl (by kernel_rfl) rfl (VPure.assign rfl rfl) ?_)); refine VCode.give hcx rfl rfl rfl rfl rfl ?_; rfl
    have h60 : (altsOut (rrun 7 (.start, []) l)).length < 60 := by
      have := of_decide_eq_false h8; omega
    have hnot : ¬ (altsE (rrun 7 (.start, []) (l ++ m)) = 14 ∧ 60 < (altsOut (rrun 7 (.start, []) l)).length + (altsOut (rrun 7 (.start, []) m)).length) := by
      have := of_decide_eq_false h7; omega
    obtain ⟨a, ha⟩ := altsE_zero (e := 7) (l := l) (by simpa using h4)
    have hm0 : m ≠ [] := fun e => by rw [e] at h5; simp at h5
    have hrow := run_row ha hm0
    (repeat (first | refine VCode.seq ?_ | refine VCode.region rfl ?_ | (refine VOps.nil ?_; dsimp only [VThen, VBlock]) | refine VOps.vp rfl (by kernel_rfl) rfl (VPure.field_ptr rfl rfl rfl) ?_ | refine VOps.vv rfl (by kernel_rfl) rfl (VLoad.box1 rfl rfl rfl rfl (by rfl) (by decide)) ?_ | refine VOps.vp rfl (by kernel_rfl) rfl (VPure.nei rfl rfl rfl) ?_ | refine VCode.skip ?_))
    refine VCode.cond rfl (fun h9 => ?_) (fun h9 => ?_)
    · obtain ⟨q, hq, hq'⟩ : ∃ q, rrun 7 (.start, []) (l ++ m) = .error q ∧ (q.1 = 14 ∨ rrun 7 (.start, []) (l ++ m) = rrun 7 (.start, []) m) := by
        rcases hrow with ⟨p, hp, _⟩ | hp
        · exact ⟨_, hp, .inl rfl⟩
        · cases h2' : rrun 7 (.start, []) m with
          | ok b => rw [h2'] at h9; simp [altsE] at h9
          | error q => rw [h2'] at hp; exact ⟨q, hp, .inr hp⟩
      have ho : altsOut (rrun 7 (.start, []) (l ++ m)) = [] := by rw [hq]; rfl
      (repeat (first | refine VCode.seq ?_ | refine VCode.region rfl ?_ | refine VOps.vp rfl (by kernel_rfl) rfl (VPure.move rfl rfl) ?_ | refine VOps.vv rfl (by kernel_rfl) rfl (VLoad.boxA rfl rfl rfl (by rfl) (Nat.le_of_ble_eq_true (by rfl)) (by decide)) ?_ | refine VOps.vp rfl (by kernel_rfl) rfl (VPure.eqA rfl rfl rfl (by rfl)) ?_))
      refine VOps.bool (d := 79) rfl (fun h10 => ?_) (fun h10 => ?_)
      · (repeat (first | refine VOps.vp rfl (by kernel_rfl) rfl (VPure.move rfl rfl) ?_ | refine VOps.vp rfl (by kernel_rfl) rfl (VPure.len_map TI.und' rfl rfl) ?_ | refine VOps.vp rfl (by kernel_rfl) rfl (VPure.eqi rfl rfl rfl) ?_ | refine VOps.vp rfl (by kernel_rfl) rfl (VPure.pick_t rfl rfl rfl) ?_ | refine VOps.passv rfl (by kernel_rfl) rfl ?_))
        refine VOps.says (d := 89) (v := .val (.bool true)) rfl (by rw [ho]; rfl) ?_
        skip; refine VOps.pure rfl Try.func10 rfl (by kernel_rfl) rfl rfl rfl rfl rfl rfl rfl (wakes_v) ?_; (repeat (first | (refine VOps.nil ?_; dsimp only [VThen, VBlock]) | refine VOps.vp rfl (by kernel_rfl) rfl (VPure.assign rfl rfl) ?_ | refine VOps.vp rfl (by kernel_rfl) rfl (VPure.pick_t rfl rfl rfl) ?_)); refine VCode.give hcx rfl rfl rfl rfl rfl ?_; rfl
      · (repeat (first | refine VOps.vp rfl (by kernel_rfl) rfl (VPure.move rfl rfl) ?_ | refine VOps.vp rfl (by kernel_rfl) rfl (VPure.field_ptr rfl rfl rfl) ?_ | refine VOps.vv rfl (by kernel_rfl) rfl (VLoad.box1 rfl rfl rfl rfl (by rfl) (by decide)) ?_ | refine VOps.vp rfl (by kernel_rfl) rfl (VPure.eqi rfl rfl rfl) ?_ | refine VOps.vp rfl (by kernel_rfl) rfl (VPure.pick_f rfl rfl rfl) ?_))
        refine VOps.says (d := 84) (v := .val (.bool true)) rfl (by
          rcases hq' with h | h
          · rw [hq]; show V.val (.bool (decide (q.1 = 14))) = _; rw [h]; rfl
          · rw [h] at h10; simp at h10) ?_
        (repeat (first | refine VOps.vp rfl (by kernel_rfl) rfl (VPure.move rfl rfl) ?_ | refine VOps.vp rfl (by kernel_rfl) rfl (VPure.len_map TI.und' rfl rfl) ?_ | refine VOps.vp rfl (by kernel_rfl) rfl (VPure.eqi rfl rfl rfl) ?_ | refine VOps.vp rfl (by kernel_rfl) rfl (VPure.pick_t rfl rfl rfl) ?_))
        refine VOps.says (d := 89) (v := .val (.bool true)) rfl (by rw [ho]; rfl) ?_
        skip; refine VOps.pure rfl Try.func10 rfl (by kernel_rfl) rfl rfl rfl rfl rfl rfl rfl (wakes_v) ?_; (repeat (first | (refine VOps.nil ?_; dsimp only [VThen, VBlock]) | refine VOps.vp rfl (by kernel_rfl) rfl (VPure.assign rfl rfl) ?_ | refine VOps.vp rfl (by kernel_rfl) rfl (VPure.pick_t rfl rfl rfl) ?_)); refine VCode.give hcx rfl rfl rfl rfl rfl ?_; rfl
    obtain ⟨b, hb⟩ := altsE_zero (e := 7) (l := m) (by simpa using h9)
    have h3ok : rrun 7 (.start, []) (l ++ m) = .ok (a ++ b) := by
      rcases hrow with ⟨p, hp, hgt⟩ | hp
      · refine absurd ⟨?_, ?_⟩ hnot
        · rw [hp]; rfl
        · have := hgt b hb
          rw [ha, hb]
          simp only [altsOut, List.length_map]
          exact this
      · rw [hb] at hp; exact hp
    have hout : altsOut (rrun 7 (.start, []) (l ++ m)) = altsOut (rrun 7 (.start, []) l) ++ altsOut (rrun 7 (.start, []) m) := by
      rw [h3ok, ha, hb]; simp [altsOut]
    obtain ⟨blm, blm'⟩ := altsOut_bound 7 (l ++ m)
    rw [List.length_append] at blm blm'
    (repeat (first | refine VCode.seq ?_ | refine VCode.region rfl ?_ | refine VOps.vp rfl (by kernel_rfl) rfl (VPure.move rfl rfl) ?_ | refine VOps.vp rfl (by kernel_rfl) rfl (VPure.field_ptr rfl rfl rfl) ?_ | refine VOps.vv rfl (by kernel_rfl) rfl (VLoad.box1 rfl rfl rfl rfl (by rfl) (by decide)) ?_ | refine VOps.vp rfl (by kernel_rfl) rfl (VPure.eqi rfl rfl rfl) ?_ | refine VCode.skip ?_))
    refine VOps.says (d := 95) (v := .val (.bool true)) rfl (by rw [h3ok]; rfl) ?_
    (repeat (first | refine VOps.vp rfl (by kernel_rfl) rfl (VPure.move rfl rfl) ?_))
    refine VOps.lit (rows := []) rfl rfl (by kernel_rfl) rfl (by kernel_rfl) (by rfl) (by decide) (by decide) rfl (by rfl) (by rfl) (by rfl) (by rfl) ?_
    (repeat (first | refine VOps.vp rfl (by kernel_rfl) rfl (VPure.move rfl rfl) ?_))
    refine VOps.append (zs := (altsOut (rrun 7 (.start, []) l)).map encAlt) rfl rfl (by kernel_rfl) rfl (by rfl) (by decide) rfl (.arr rfl) rfl (.sl) (by simp only [List.length_append, List.length_cons, List.length_nil, List.length_map]; unfold most; omega) (by simp only [List.length_append, List.length_cons, List.length_nil, List.length_map]; unfold most; omega) rfl (by simp) ?_
    (repeat (first | refine VOps.vp rfl (by kernel_rfl) rfl (VPure.move rfl rfl) ?_))
    refine VOps.append (zs := (altsOut (rrun 7 (.start, []) l) ++ altsOut (rrun 7 (.start, []) m)).map encAlt) rfl rfl (by kernel_rfl) rfl (by rfl) (by decide) rfl (.arr rfl) rfl (.sl) (by simp only [List.length_append, List.length_cons, List.length_nil, List.length_map]; unfold most; omega) (by simp only [List.length_append, List.length_cons, List.length_nil, List.length_map]; unfold most; omega) rfl (by simp) ?_
    refine VOps.pure rfl Try.func13 rfl (by kernel_rfl) rfl rfl rfl rfl rfl rfl rfl (keepAlts_v (altsOut (rrun 7 (.start, []) (l ++ m))) (altsOut (rrun 7 (.start, []) l) ++ altsOut (rrun 7 (.start, []) m)) (by omega) (fun x hx => by have := blm' x hx; omega)) ?_
    (repeat (first | refine VOps.vp rfl (by kernel_rfl) rfl (VPure.move rfl rfl) ?_ | refine VOps.vp rfl (by kernel_rfl) rfl (VPure.pick_t rfl rfl rfl) ?_))
    refine VOps.says (d := 104) (v := .val (.bool true)) rfl (by rw [decide_eq_true hout]) ?_
    skip; refine VOps.pure rfl Try.func10 rfl (by kernel_rfl) rfl rfl rfl rfl rfl rfl rfl (wakes_v) ?_; (repeat (first | (refine VOps.nil ?_; dsimp only [VThen, VBlock]) | refine VOps.vp rfl (by kernel_rfl) rfl (VPure.assign rfl rfl) ?_ | refine VOps.vp rfl (by kernel_rfl) rfl (VPure.pick_t rfl rfl rfl) ?_)); refine VCode.give hcx rfl rfl rfl rfl rfl ?_; rfl
  (repeat (first | (refine VOps.nil ?_; dsimp only [VThen, VBlock]) | refine VOps.vp rfl (by kernel_rfl) rfl (VPure.move rfl rfl) ?_ | refine VOps.vp rfl (by kernel_rfl) rfl (VPure.len_map TI.und' rfl rfl) ?_ | refine VOps.vp rfl (by kernel_rfl) rfl (VPure.geq rfl rfl rfl) ?_ | refine VOps.vp rfl (by kernel_rfl) rfl (VPure.pick_f rfl rfl rfl) ?_ | refine VOps.passv rfl (by kernel_rfl) rfl ?_))
  refine VCode.cond rfl (fun h8 => ?_) (fun h8 => ?_)
  · (repeat (first | refine VCode.seq ?_ | refine VCode.region rfl ?_)); refine VOps.pure rfl Try.func10 rfl (by kernel_rfl) rfl rfl rfl rfl rfl rfl rfl (wakes_v) ?_; (repeat (first | (refine VOps.nil ?_; dsimp only [VThen, VBlock]) | refine VOps.vp rfl (by kernel_rfl) rfl (VPure.assign rfl rfl) ?_)); refine VCode.give hcx rfl rfl rfl rfl rfl ?_; rfl
  have h60 : (altsOut (rrun 7 (.start, []) l)).length < 60 := by
    have := of_decide_eq_false h8; omega
  have hnot : ¬ (altsE (rrun 7 (.start, []) (l ++ m)) = 14 ∧ 60 < (altsOut (rrun 7 (.start, []) l)).length + (altsOut (rrun 7 (.start, []) m)).length) := fun h => of_decide_eq_false h6 h.1
  obtain ⟨a, ha⟩ := altsE_zero (e := 7) (l := l) (by simpa using h4)
  have hm0 : m ≠ [] := fun e => by rw [e] at h5; simp at h5
  have hrow := run_row ha hm0
  (repeat (first | refine VCode.seq ?_ | refine VCode.region rfl ?_ | (refine VOps.nil ?_; dsimp only [VThen, VBlock]) | refine VOps.vp rfl (by kernel_rfl) rfl (VPure.field_ptr rfl rfl rfl) ?_ | refine VOps.vv rfl (by kernel_rfl) rfl (VLoad.box1 rfl rfl rfl rfl (by rfl) (by decide)) ?_ | refine VOps.vp rfl (by kernel_rfl) rfl (VPure.nei rfl rfl rfl) ?_ | refine VCode.skip ?_))
  refine VCode.cond rfl (fun h9 => ?_) (fun h9 => ?_)
  · obtain ⟨q, hq, hq'⟩ : ∃ q, rrun 7 (.start, []) (l ++ m) = .error q ∧ (q.1 = 14 ∨ rrun 7 (.start, []) (l ++ m) = rrun 7 (.start, []) m) := by
      rcases hrow with ⟨p, hp, _⟩ | hp
      · exact ⟨_, hp, .inl rfl⟩
      · cases h2' : rrun 7 (.start, []) m with
        | ok b => rw [h2'] at h9; simp [altsE] at h9
        | error q => rw [h2'] at hp; exact ⟨q, hp, .inr hp⟩
    have ho : altsOut (rrun 7 (.start, []) (l ++ m)) = [] := by rw [hq]; rfl
    (repeat (first | refine VCode.seq ?_ | refine VCode.region rfl ?_ | refine VOps.vp rfl (by kernel_rfl) rfl (VPure.move rfl rfl) ?_ | refine VOps.vv rfl (by kernel_rfl) rfl (VLoad.boxA rfl rfl rfl (by rfl) (Nat.le_of_ble_eq_true (by rfl)) (by decide)) ?_ | refine VOps.vp rfl (by kernel_rfl) rfl (VPure.eqA rfl rfl rfl (by rfl)) ?_))
    refine VOps.bool (d := 79) rfl (fun h10 => ?_) (fun h10 => ?_)
    · (repeat (first | refine VOps.vp rfl (by kernel_rfl) rfl (VPure.move rfl rfl) ?_ | refine VOps.vp rfl (by kernel_rfl) rfl (VPure.len_map TI.und' rfl rfl) ?_ | refine VOps.vp rfl (by kernel_rfl) rfl (VPure.eqi rfl rfl rfl) ?_ | refine VOps.vp rfl (by kernel_rfl) rfl (VPure.pick_t rfl rfl rfl) ?_ | refine VOps.passv rfl (by kernel_rfl) rfl ?_))
      refine VOps.says (d := 89) (v := .val (.bool true)) rfl (by rw [ho]; rfl) ?_
      skip; refine VOps.pure rfl Try.func10 rfl (by kernel_rfl) rfl rfl rfl rfl rfl rfl rfl (wakes_v) ?_; (repeat (first | (refine VOps.nil ?_; dsimp only [VThen, VBlock]) | refine VOps.vp rfl (by kernel_rfl) rfl (VPure.assign rfl rfl) ?_ | refine VOps.vp rfl (by kernel_rfl) rfl (VPure.pick_t rfl rfl rfl) ?_)); refine VCode.give hcx rfl rfl rfl rfl rfl ?_; rfl
    · (repeat (first | refine VOps.vp rfl (by kernel_rfl) rfl (VPure.move rfl rfl) ?_ | refine VOps.vp rfl (by kernel_rfl) rfl (VPure.field_ptr rfl rfl rfl) ?_ | refine VOps.vv rfl (by kernel_rfl) rfl (VLoad.box1 rfl rfl rfl rfl (by rfl) (by decide)) ?_ | refine VOps.vp rfl (by kernel_rfl) rfl (VPure.eqi rfl rfl rfl) ?_ | refine VOps.vp rfl (by kernel_rfl) rfl (VPure.pick_f rfl rfl rfl) ?_))
      refine VOps.says (d := 84) (v := .val (.bool true)) rfl (by
        rcases hq' with h | h
        · rw [hq]; show V.val (.bool (decide (q.1 = 14))) = _; rw [h]; rfl
        · rw [h] at h10; simp at h10) ?_
      (repeat (first | refine VOps.vp rfl (by kernel_rfl) rfl (VPure.move rfl rfl) ?_ | refine VOps.vp rfl (by kernel_rfl) rfl (VPure.len_map TI.und' rfl rfl) ?_ | refine VOps.vp rfl (by kernel_rfl) rfl (VPure.eqi rfl rfl rfl) ?_ | refine VOps.vp rfl (by kernel_rfl) rfl (VPure.pick_t rfl rfl rfl) ?_))
      refine VOps.says (d := 89) (v := .val (.bool true)) rfl (by rw [ho]; rfl) ?_
      skip; refine VOps.pure rfl Try.func10 rfl (by kernel_rfl) rfl rfl rfl rfl rfl rfl rfl (wakes_v) ?_; (repeat (first | (refine VOps.nil ?_; dsimp only [VThen, VBlock]) | refine VOps.vp rfl (by kernel_rfl) rfl (VPure.assign rfl rfl) ?_ | refine VOps.vp rfl (by kernel_rfl) rfl (VPure.pick_t rfl rfl rfl) ?_)); refine VCode.give hcx rfl rfl rfl rfl rfl ?_; rfl
  obtain ⟨b, hb⟩ := altsE_zero (e := 7) (l := m) (by simpa using h9)
  have h3ok : rrun 7 (.start, []) (l ++ m) = .ok (a ++ b) := by
    rcases hrow with ⟨p, hp, hgt⟩ | hp
    · refine absurd ⟨?_, ?_⟩ hnot
      · rw [hp]; rfl
      · have := hgt b hb
        rw [ha, hb]
        simp only [altsOut, List.length_map]
        exact this
    · rw [hb] at hp; exact hp
  have hout : altsOut (rrun 7 (.start, []) (l ++ m)) = altsOut (rrun 7 (.start, []) l) ++ altsOut (rrun 7 (.start, []) m) := by
    rw [h3ok, ha, hb]; simp [altsOut]
  obtain ⟨blm, blm'⟩ := altsOut_bound 7 (l ++ m)
  rw [List.length_append] at blm blm'
  (repeat (first | refine VCode.seq ?_ | refine VCode.region rfl ?_ | refine VOps.vp rfl (by kernel_rfl) rfl (VPure.move rfl rfl) ?_ | refine VOps.vp rfl (by kernel_rfl) rfl (VPure.field_ptr rfl rfl rfl) ?_ | refine VOps.vv rfl (by kernel_rfl) rfl (VLoad.box1 rfl rfl rfl rfl (by rfl) (by decide)) ?_ | refine VOps.vp rfl (by kernel_rfl) rfl (VPure.eqi rfl rfl rfl) ?_ | refine VCode.skip ?_))
  refine VOps.says (d := 95) (v := .val (.bool true)) rfl (by rw [h3ok]; rfl) ?_
  (repeat (first | refine VOps.vp rfl (by kernel_rfl) rfl (VPure.move rfl rfl) ?_))
  refine VOps.lit (rows := []) rfl rfl (by kernel_rfl) rfl (by kernel_rfl) (by rfl) (by decide) (by decide) rfl (by rfl) (by rfl) (by rfl) (by rfl) ?_
  (repeat (first | refine VOps.vp rfl (by kernel_rfl) rfl (VPure.move rfl rfl) ?_))
  refine VOps.append (zs := (altsOut (rrun 7 (.start, []) l)).map encAlt) rfl rfl (by kernel_rfl) rfl (by rfl) (by decide) rfl (.arr rfl) rfl (.sl) (by simp only [List.length_append, List.length_cons, List.length_nil, List.length_map]; unfold most; omega) (by simp only [List.length_append, List.length_cons, List.length_nil, List.length_map]; unfold most; omega) rfl (by simp) ?_
  (repeat (first | refine VOps.vp rfl (by kernel_rfl) rfl (VPure.move rfl rfl) ?_))
  refine VOps.append (zs := (altsOut (rrun 7 (.start, []) l) ++ altsOut (rrun 7 (.start, []) m)).map encAlt) rfl rfl (by kernel_rfl) rfl (by rfl) (by decide) rfl (.arr rfl) rfl (.sl) (by simp only [List.length_append, List.length_cons, List.length_nil, List.length_map]; unfold most; omega) (by simp only [List.length_append, List.length_cons, List.length_nil, List.length_map]; unfold most; omega) rfl (by simp) ?_
  refine VOps.pure rfl Try.func13 rfl (by kernel_rfl) rfl rfl rfl rfl rfl rfl rfl (keepAlts_v (altsOut (rrun 7 (.start, []) (l ++ m))) (altsOut (rrun 7 (.start, []) l) ++ altsOut (rrun 7 (.start, []) m)) (by omega) (fun x hx => by have := blm' x hx; omega)) ?_
  (repeat (first | refine VOps.vp rfl (by kernel_rfl) rfl (VPure.move rfl rfl) ?_ | refine VOps.vp rfl (by kernel_rfl) rfl (VPure.pick_t rfl rfl rfl) ?_))
  refine VOps.says (d := 104) (v := .val (.bool true)) rfl (by rw [decide_eq_true hout]) ?_
  skip; refine VOps.pure rfl Try.func10 rfl (by kernel_rfl) rfl rfl rfl rfl rfl rfl rfl (wakes_v) ?_; (repeat (first | (refine VOps.nil ?_; dsimp only [VThen, VBlock]) | refine VOps.vp rfl (by kernel_rfl) rfl (VPure.assign rfl rfl) ?_ | refine VOps.vp rfl (by kernel_rfl) rfl (VPure.pick_t rfl rfl rfl) ?_)); refine VCode.give hcx rfl rfl rfl rfl rfl ?_; rfl
-- LAW ReadRow row_law open_toks open_toks
theorem row_law (l : List Tok) (g : (∀ a ∈ l, goodTok a) ∧ l.length * 32 ≤ reachBytes) (m : List Tok) (g' : (∀ a ∈ m, goodTok a) ∧ m.length * 32 ≤ reachBytes) : VCalls Try.prog 7 [.sl 3 (l.map encTok), .sl 3 (m.map encTok)] [] 0 (Gives (.val (.bool true))) :=
  row_v l m (by have := g.2; have h : reachBytes < 140737488355328 := reachBytes_lt; omega) (by have := g'.2; have h : reachBytes < 140737488355328 := reachBytes_lt; omega)
end Go.Proofs.Ytilldpmlcgikdaa.V
