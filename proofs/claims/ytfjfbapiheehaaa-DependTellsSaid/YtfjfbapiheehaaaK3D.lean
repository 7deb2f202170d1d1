/- What D needs of this session's own texts, part 3: put together by wip/dce.py. -/
import Derived.Test.YtfjfbapiheehaaaK2D
import Derived.Conc.LoneCalls
section
set_option linter.unusedSimpArgs false
set_option linter.unusedVariables false
namespace Go.Proofs.Ytfjfbapiheehaaa.Comm
open Go Go.Conc Go.RowKit
def Ops (P : Program) (ops : Array Oper) (Q : Exit → Act → World → Prop) (l : List Nat) (a : Act) (w : World) : Prop :=
 ∀ (b : Frame) (k : List Item) (cs : List Frame), ∃ e a' w', Q e a' w' ∧ Arrives P (lone (b.at a (.inRegion ops l :: k)) cs w) b k cs e a' w'
section
variable {P : Program} {ops : Array Oper} {Q : Exit → Act → World → Prop} {a : Act} {w : World}
theorem Ops.of {l : List Nat} (h : wpOps P ops Q l a w) : Ops P ops Q l a w := fun b k cs => wp_ops l a w h b k cs
theorem region_of {id : Nat} (h : Ops P ops Q (List.range ops.size) a w) : (Code.region id ops false).wp P Q a w :=
 fun b k cs => let ⟨e, a', w', q, r⟩ := h b k cs; ⟨e, a', w', q, .of_steps (.one step_region) r⟩
theorem Ops.value {i : Nat} {rest : List Nat} {o : Oper} {v : Value} {w' : World} (ho : ops[i]? = some o) (hw : Region.wanted o (yielded ops a.tmps) = true)
  (hr : (execOp a.eval o).run P w = .ok (.value v) w') (h : Ops P ops Q rest (a.put o.dst v) w') : Ops P ops Q (i :: rest) a w := by
 intro b k cs
 have hg := stepG_op (P := P) (b := b) (k := k) (cs := cs) (w := w) (rest := rest) ho hw
 have hfin : (b.at a (.inRegion ops (i :: rest) :: k)).finish v = b.at (a.put o.dst v) (.inRegion ops rest :: k) := by rw [Frame.finish_at, ho]; rfl
 obtain ⟨e, a', w'', hq, harr⟩ := h b k cs
 refine ⟨e, a', w'', hq, .of_steps (.one (step_lone_go ?_)) harr⟩
 rw [hg, ← hfin]; simp [stepG.apply, hr]
theorem Ops.skip {i : Nat} {rest : List Nat} {o : Oper} {w' : World} (ho : ops[i]? = some o) (hw : Region.wanted o (yielded ops a.tmps) = true)
  (hr : (execOp a.eval o).run P w = .ok .skip w') (h : Ops P ops Q rest (a.put o.dst undef) w') : Ops P ops Q (i :: rest) a w := by
 intro b k cs
 have hg := stepG_op (P := P) (b := b) (k := k) (cs := cs) (w := w) (rest := rest) ho hw
 have hfin : (b.at a (.inRegion ops (i :: rest) :: k)).finish undef = b.at (a.put o.dst undef) (.inRegion ops rest :: k) := by rw [Frame.finish_at, ho]; rfl
 obtain ⟨e, a', w'', hq, harr⟩ := h b k cs
 refine ⟨e, a', w'', hq, .of_steps (.one (step_lone_go ?_)) harr⟩
 rw [hg, ← hfin]; simp [stepG.apply, hr]
theorem Ops.pass {i : Nat} {rest : List Nat} {o : Oper} (ho : ops[i]? = some o) (hw : Region.wanted o (yielded ops a.tmps) = false)
  (h : Ops P ops Q rest (a.put o.dst undef) w) : Ops P ops Q (i :: rest) a w := by
 intro b k cs
 obtain ⟨e, a', w', hq, harr⟩ := h b k cs
 have hs := step_op_skip (P := P) (b := b) (a := a) (k := k) (cs := cs) (w := w) (ops := ops) (i := i) (rest := rest) (by simp [ho, hw])
 simp only [ho, Option.bind_some] at hs
 exact ⟨e, a', w', hq, .of_steps (.one hs) harr⟩
theorem Ops.comm {i : Nat} {rest : List Nat} {o : Oper} {cases : Array CommCase} {blocking : Bool} {shape : CommShape} {w₁ w' : World} {v : Value} (ho : ops[i]? = some o) (hw : Region.wanted o (yielded ops a.tmps) = true)
  (hr : (execOp a.eval o).run P w = .ok (.comm cases blocking shape) w₁)
  (hs : ∀ (fr : Frame) (cs : List Frame) (es : Array Event), stepG P true (G fr cs) w = .comm (G fr cs) cases blocking shape w₁ es → step P (solo (G fr cs) w) = .next (solo (G (fr.finish v) cs) w'))
  (h : Ops P ops Q rest (a.put o.dst v) w') : Ops P ops Q (i :: rest) a w := by
 intro b k cs
 have hfin : (b.at a (.inRegion ops (i :: rest) :: k)).finish v = b.at (a.put o.dst v) (.inRegion ops rest :: k) := by rw [Frame.finish_at, ho]; rfl
 obtain ⟨e, a', w'', hq, harr⟩ := h b k cs
 refine ⟨e, a', w'', hq, .of_steps (.one ?_) harr⟩
 have hg : stepG P true (G (b.at a (.inRegion ops (i :: rest) :: k)) cs) w = .comm (G (b.at a (.inRegion ops (i :: rest) :: k)) cs) cases blocking shape w₁ (stepG P true (G (b.at a (.inRegion ops (i :: rest) :: k)) cs) w).es := by
  rw [stepG_oper ho hw]
  simp only [stepG.apply, Sem.runT_eq, if_true, hr, GStep.after, GStep.es]
  rfl
 have := hs _ _ _ hg
 rw [hfin] at this
 exact this
theorem Ops.front (l2 : List Nat) : ∀ (l1 : List Nat) (a : Act) (w : World), wpOps P ops (Exit.then (Ops P ops Q l2) Q) l1 a w → Ops P ops Q (l1 ++ l2) a w := by
 intro l1
 induction l1 with
 | nil => exact fun a w h => h
 | cons i rest ih =>
  intro a w h
  simp only [wpOps] at h
  have hLO : LetsOut (Exit.then (Ops P ops Q l2) Q) → LetsOut Q := fun ⟨a₀, w₀, hq⟩ => ⟨a₀, w₀, hq⟩
  cases ho : ops[i]? with
  | none =>
   simp only [ho] at h
   intro b k cs
   obtain ⟨e, a', w', hq, harr⟩ := ih a w h b k cs
   have hs := step_op_skip (P := P) (b := b) (a := a) (k := k) (cs := cs) (w := w) (ops := ops) (i := i) (rest := rest ++ l2) (by simp [ho])
   simp only [ho, Option.bind_none, Act.put] at hs
   exact ⟨e, a', w', hq, .of_steps (.one hs) harr⟩
  | some o =>
   simp only [ho] at h
   by_cases hw : Region.wanted o (yielded ops a.tmps) = true
   ·simp only [hw, if_true] at h
    rcases h with h | ⟨hasks, hlo⟩
    case inr =>
     intro b k cs
     obtain ⟨a₀, w₀, hq⟩ := hLO hlo
     by_cases hk : b.kind = .early
     ·exact ⟨.outgrown, a₀, w₀, hq, .inl hk⟩
     ·exact ⟨.outgrown, a₀, w₀, hq, .inr (asks_outgrown ho hw hk hasks)⟩
    simp only [Oper.wp, Oper.upon] at h
    split at h
    ·rename_i v w' hr
     exact Ops.value ho hw hr (ih _ _ h)
    ·rename_i w' hr
     exact Ops.skip ho hw hr (ih _ _ h)
    ·rename_i d w' hr
     intro b k cs
     have hg := stepG_op (P := P) (b := b) (k := k) (cs := cs) (w := w) (rest := rest ++ l2) ho hw
     obtain ⟨e, a', w'', hq, harr⟩ := ih _ _ h b k cs
     refine ⟨e, a', w'', hq, .of_steps (.one (step_lone_go ?_)) harr⟩
     have hf : ({ b.at a (.inRegion ops (i :: (rest ++ l2)) :: k) with defers := d :: a.defers } : Frame).finish undef = b.at ({ a with defers := d :: a.defers }.put o.dst undef) (.inRegion ops (rest ++ l2) :: k) := by
      have h1 := Frame.finish_at b { a with defers := d :: a.defers } ops i (rest ++ l2) k undef
      rw [ho] at h1; exact h1
     rw [List.cons_append, hg]; simp only [stepG.apply, Sem.runT_eq, hr, GStep.bare_after]
     exact congrArg (fun fr => GStep.go { frame := fr, callers := cs, status := .running, dying := none } w') hf
    ·rename_i f args w' hr
     intro b k cs
     have hg := stepG_op (P := P) (b := b) (k := k) (cs := cs) (w := w) (rest := rest ++ l2) ho hw
     have hfin : ∀ v, (b.at a (.inRegion ops (i :: (rest ++ l2)) :: k)).finish v = b.at (a.put o.dst v) (.inRegion ops (rest ++ l2) :: k) := fun v => by rw [Frame.finish_at, ho]; rfl
     obtain ⟨e, w'', fr, hR, hsteps, _, hleave⟩ := h (b.at a (.inRegion ops (i :: (rest ++ l2)) :: k) :: cs)
     have henter : step P (lone (b.at a (.inRegion ops (i :: (rest ++ l2)) :: k)) cs w) = .next (lone (Frame.enter P f args .normal) (b.at a (.inRegion ops (i :: (rest ++ l2)) :: k) :: cs) w') :=
      step_lone_go (by rw [hg]; simp [stepG.apply, hr, Frame.at])
     rw [List.cons_append]
     cases e with
     | returned v =>
      obtain ⟨e, a', w₃, hq, harr⟩ := ih _ _ hR b k cs
      refine ⟨e, a', w₃, hq, .of_steps (.head henter (hsteps.trans (.one ?_))) harr⟩
      rw [← hfin]; exact step_leave_returned hleave
     | panicked chain =>
      refine ⟨.panic chain, a, w'', hR, .inRegion ops (i :: (rest ++ l2)) :: k, .head henter (hsteps.trans (.one ?_))⟩
      rw [← Frame.raise_at]; exact step_leave_panicked hleave
     | outgrown =>
      obtain ⟨a₀, w₀, hq⟩ := hLO hR
      exact ⟨.outgrown, a₀, w₀, hq, .inr (Outgrown.of_steps (.one henter) hsteps)⟩
    ·rename_i row args w' hr
     intro b k cs
     have hg := stepG_op (P := P) (b := b) (k := k) (cs := cs) (w := w) (rest := rest ++ l2) ho hw
     obtain ⟨v, w'', hR, hsteps⟩ := h (b.at a (.inRegion ops (i :: (rest ++ l2)) :: k)) cs
     have henter : step P (lone (b.at a (.inRegion ops (i :: (rest ++ l2)) :: k)) cs w) = .next (lone (Frame.ofRow P row args .normal) (b.at a (.inRegion ops (i :: (rest ++ l2)) :: k) :: cs) w') :=
      step_lone_go (by rw [hg]; simp [stepG.apply, hr, Frame.at])
     obtain ⟨e, a', w₃, hq, harr⟩ := ih _ _ hR b k cs
     refine ⟨e, a', w₃, hq, .of_steps (.head henter ?_) harr⟩
     have hfin : (b.at a (.inRegion ops (i :: (rest ++ l2)) :: k)).finish v = b.at (a.put o.dst v) (.inRegion ops (rest ++ l2) :: k) := by rw [Frame.finish_at, ho]; rfl
     rw [← hfin]; exact hsteps
    ·rename_i v w' hr
     intro b k cs
     have hg := stepG_op (P := P) (b := b) (k := k) (cs := cs) (w := w) (rest := rest ++ l2) ho hw
     refine ⟨_, a, w', h, .inRegion ops (i :: (rest ++ l2)) :: k, .one (step_lone_go ?_)⟩
     rw [List.cons_append, hg, ← Frame.raise_at]; simp [stepG.apply, hr]
    ·exact h.elim
   ·simp only [hw, if_false, Bool.false_eq_true] at h
    exact Ops.pass ho (by simpa using hw) (ih _ _ h)
end
section
variable {P : Program} {fr : Frame} {cs : List Frame} {w w₁ : World} {es : Array Event} {c cap s r : Nat} {buf : Array Value} {z z' v : Value} {tm closed : Bool}
theorem sel_recv (h : stepG P true (G fr cs) w = .comm (G fr cs) #[rcase c z] false .select w₁ es) (hc : w₁.heap[c]? = some (.chan cap buf closed s r tm)) (hsome : 0 < buf.size) :
  step P (solo (G fr cs) w) = .next (solo (G (fr.finish (.tuple #[goInt 0, .bool true, buf.getD 0 undef])) cs) (w₁.setChan c cap (buf.extract 1 buf.size) closed s (r + 1) tm)) := by
 have hp := partners_alone (c := c) true
 rw [step, stepT_solo rfl]
 simp [runT, solo, G, Array.swapAt!, Array.swapAt, h, GStep.es, communicate, ways, rcase, hc, hp, hsome, choose, Sem.run, Question.forced, bind, Sem.bind, pure, Goroutine.finishComm, commResult, World.setChan] at h ⊢
end
section
variable {P : Program} {fr : Frame} {cs : List Frame} {w w₁ : World} {es : Array Event} {c c' cap cap' s r s' r' : Nat} {buf buf' : Array Value} {z z' v : Value}
end
end Go.Proofs.Ytfjfbapiheehaaa.Comm
end
