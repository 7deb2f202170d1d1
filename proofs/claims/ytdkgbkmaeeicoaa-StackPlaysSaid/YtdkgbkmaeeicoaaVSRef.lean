/- stack: the document's answer: has, Node, Of, Counts. -/
import Derived.Test.YtdkgbkmaeeicoaaVSFacts
set_option linter.unusedVariables false
set_option linter.unusedSimpArgs false
-- YtdkgbkmaeeicoaaVC
namespace Go.Proofs.Ytdkgbkmaeeicoaa.V
open Go Go.RowKit
theorem VPure.len_nestm {α : Type} {f : α → List N} {l : List α} {P : Program} {n : Nat} {cx : Cx} {st : St} {o : Oper} {x : Operand} {t e e' : TypeId} {id sz : Nat} {hole : Option (Nat × Nat × Nat)} (hu : P.underlying t = some (.slice e)) (ho : o.op = .call { callee := .builtin .len, args := #[x], argTypes := #[t] }) (hx : ev st.s x = some (.ref id)) (hh : lk st.h id = some (.nest e' sz (l.map f) hole)) : VPure P n cx o st (.val (.int .i64 l.length)) := by
  have := VPure.len_nest (n := n) (cx := cx) hu ho hx hh
  rw [List.length_map] at this; exact this
def rowR (u : Nd) : List N := [.dat (.val (.int .i64 u.sym)), .dat (.val (.int .i64 u.pos)), .own 68 2 (u.e.map encP), .own 3 1 (u.p.map encZ)]
def encRd (u : Nd) : List D := [.val (.int .i64 u.sym), .val (.int .i64 u.pos), .sl 2 (u.e.map encP), .sl 1 (u.p.map encZ)]
def reH (l : List Nd) : Heap := [(0, .cells 28 [.ref 1]), (1, .nest 64 4 (l.map rowR) none)]
def reH' (l : List Nd) : Heap := [(0, .cells 28 [.ref 2]), (2, .nest 64 4 (l.map rowR) none)]
theorem dn_rowsR (l : List Nd) : ((l.map rowR).map fun r => r.map N.toD) = l.map encRd := by
  rw [List.map_map]; rfl
set_option maxHeartbeats 1000000 in
theorem rhas_v (xs : List (List D)) (n : Int) : VCalls Try.prog 25 [.el [.sl 4 xs], .val (.int .i64 n)] [] 0 (Gives (.val (.bool (decide (0 ≤ n) && decide (n < xs.length))))) := by
  refine VCalls.enter (n := 16) Try.func25 rfl rfl (by simp) (fun cx hcx => ?_)
  (repeat (first | ((with_reducible refine VOps.same ?_); (first | (refine VOps.nil ?_; try dsimp only [VThen, VBlock]) | refine VOps.vp (by rfl) (by kernel_rfl) (by rfl) (VPure.move rfl rfl) ?_ | refine VOps.vp (by rfl) (by kernel_rfl) (by rfl) (VPure.assign rfl rfl) ?_ | refine VOps.vp (by rfl) (by kernel_rfl) (by rfl) (VPure.geq rfl rfl rfl) ?_)) | refine VCode.seq ?_ | refine VCode.region rfl ?_))
  refine VOps.bool (d := 7) rfl (fun h => ?_) (fun h => ?_)
  · (repeat (first | ((with_reducible refine VOps.same ?_); (first | (refine VOps.nil ?_; try dsimp only [VThen, VBlock]) | refine VOps.vp (by rfl) (by kernel_rfl) (by rfl) (VPure.move rfl rfl) ?_ | refine VOps.vp (by rfl) (by kernel_rfl) (by rfl) (VPure.assign rfl rfl) ?_ | refine VOps.vp (by rfl) (by kernel_rfl) (by rfl) (VPure.len_sl TI.und' rfl rfl) ?_ | refine VOps.vp (by rfl) (by kernel_rfl) (by rfl) (VPure.field_el rfl rfl) ?_ | refine VOps.vv (by rfl) (by kernel_rfl) (by rfl) (VLoad.el1 rfl rfl rfl (by rfl)) ?_ | refine VOps.vp (by rfl) (by kernel_rfl) (by rfl) (VPure.lss rfl rfl rfl) ?_ | refine VOps.vp (by rfl) (by kernel_rfl) (by rfl) (VPure.pick_t rfl rfl rfl) ?_ | refine VOps.vp (by rfl) (by kernel_rfl) (by rfl) (VPure.nilCheck_el rfl rfl) ?_))))
    refine VCode.give hcx rfl rfl rfl rfl rfl ?_
    rw [show decide (0 ≤ n) = true from h]; rfl
  · (repeat (first | ((with_reducible refine VOps.same ?_); (first | (refine VOps.nil ?_; try dsimp only [VThen, VBlock]) | refine VOps.vp (by rfl) (by kernel_rfl) (by rfl) (VPure.assign rfl rfl) ?_ | refine VOps.vp (by rfl) (by kernel_rfl) (by rfl) (VPure.pick_f rfl rfl rfl) ?_ | refine VOps.passv rfl (by kernel_rfl) rfl ?_))))
    refine VCode.give hcx rfl rfl rfl rfl rfl ?_
    rw [show decide (0 ≤ n) = false from h]; rfl
theorem rhasr_v (l : List Nd) (n : Int) : VCalls Try.prog 25 [.el [.sl 4 ((l.map rowR).map fun r => r.map N.toD)], .val (.int .i64 n)] [] 0 (Gives (.val (.bool (hasB l n)))) := by
  have := rhas_v (l.map encRd) n
  rw [List.length_map] at this
  rw [dn_rowsR]
  exact this
theorem isNd_f {s p : Int} {u : Nd} (h : u.sym = s → u.pos = p → False) : isNd s p u = false := by
  rw [Bool.eq_false_iff]
  intro hb
  have := (isNd_is s p u).1 hb
  obtain ⟨h1, h2⟩ := Prod.mk.inj this
  exact h h1 h2
theorem find_at {l : List Nd} {s p : Int} {k : Nat} {u : Nd} (h : l[k]? = some u) (hp : isNd s p u = true) (hb : ∀ v ∈ l.take k, isNd s p v = false) : l.findIdx? (isNd s p) = some k := by
  have h1 := firstAt_some h hp hb
  unfold firstAt at h1
  cases hf : l.findIdx? (isNd s p) with
  | some i => rw [hf] at h1; have : (i : Int) = k := h1; congr 1; omega
  | none => rw [hf] at h1; have : (-1 : Int) = k := h1; omega
set_option maxHeartbeats 4000000 in
theorem rnode_v (l : List Nd) (sym pos : Int) (hl : l.length ≤ 1000000) : VCalls Try.prog 10 [.ptr 0 0, .val (.int .i64 sym), .val (.int .i64 pos)] (reH l) 2 (Leaves (.tup [.val (.int .i64 (nodeAt l sym pos : Int)), .val (.bool (!thereB l sym pos))]) (reH' (addNode l sym pos)) 3) := by
  refine VCalls.enterL (n := 59) Try.func10 rfl rfl (by simp) (fun cx hcx => ?_)
  unfold reH reH'
  (repeat (first | ((with_reducible refine VOps.same ?_); (first | (refine VOps.nil ?_; try dsimp only [VThen, VBlock]) | refine VOps.vp (by rfl) (by kernel_rfl) (by rfl) (VPure.assign rfl rfl) ?_)) | refine VCode.seq ?_ | refine VCode.region rfl ?_ | refine VCode.block ?_))
  refine VCode.loop (fun m st => ∃ k : Nat, k ≤ l.length ∧ m = l.length - k ∧ (∀ v ∈ l.take k, isNd sym pos v = false) ∧ st = ⟨[(8, .val (.int .i64 (k : Int))), (0, .ptr 0 0), (1, .val (.int .i64 sym)), (2, .val (.int .i64 pos))], [(0, .cells 28 [.ref 1]), (1, .nest 64 4 (l.map rowR) none)], 2⟩) l.length ?_ ?_
  · (refine Less.mkx (l := [0, 1]) 2 hcx (by exact Nat.le_of_ble_eq_true rfl) (by decide) ?ss ?hh rfl (by decide) rfl ⟨0, by omega, by omega, by simp, rfl⟩; (case ss => repeat (first | exact SubS.nil | refine SubS.cons rfl rfl ?_ | refine SubS.cons (congrArg (fun z => some (V.val (Value.int IntKind.i64 z))) (by omega)) rfl ?_ | refine SubS.cons (congrArg (fun z => some (V.val (Value.bool z))) (by assumption)) rfl ?_)); (case hh => repeat (first | exact SubH.nil | refine SubH.cons rfl rfl rfl ?_)))
  rintro m st ⟨k, hk, rfl, hb, rfl⟩
  cases ht : l[k]? with
  | some u =>
    have hlt : k < l.length := (List.getElem?_eq_some_iff.1 ht).1
    (repeat (first | ((with_reducible refine VOps.same ?_); (first | (refine VOps.nil ?_; try dsimp only [VThen, VBlock]) | refine VOps.vp (by rfl) (by kernel_rfl) (by rfl) (VPure.move rfl rfl) ?_ | refine VOps.vp (by rfl) (by kernel_rfl) (by rfl) (VPure.field_ptr rfl rfl rfl) ?_ | refine VOps.vv (by rfl) (by kernel_rfl) (by rfl) (VLoad.box1 rfl rfl rfl rfl (by rfl) (by decide)) ?_ | refine VOps.vp (by rfl) (by kernel_rfl) (by rfl) (VPure.lss rfl rfl rfl) ?_ | refine VOps.vp (by rfl) (by kernel_rfl) (by rfl) (VPure.nilCheck_ptr rfl rfl rfl) ?_ | refine VOps.vp (by rfl) (by kernel_rfl) (by rfl) (VPure.len_nestm TI.und' rfl rfl rfl) ?_)) | refine VCode.seq ?_ | refine VCode.region rfl ?_))
    refine VCode.cond_t rfl (decide_eq_true (by omega)) ?_
    (repeat (first | ((with_reducible refine VOps.same ?_); (first | refine VOps.vp (by rfl) (by kernel_rfl) (by rfl) (VPure.move rfl rfl) ?_ | refine VOps.vp (by rfl) (by kernel_rfl) (by rfl) (VPure.field_ptr rfl rfl rfl) ?_ | refine VOps.vv (by rfl) (by kernel_rfl) (by rfl) (VLoad.box1 rfl rfl rfl rfl (by rfl) (by decide)) ?_ | refine VOps.vp (by rfl) (by kernel_rfl) (by rfl) (VPure.eqi rfl rfl rfl) ?_ | refine VOps.vp (by rfl) (by kernel_rfl) (by rfl) (VPure.nilCheck_ptr rfl rfl rfl) ?_ | (refine VOps.vp (by rfl) (by kernel_rfl) (by rfl) (VPure.idx_nest rfl rfl rfl rfl ?b1 ?b2) ?_; (case b1 => (first | omega | (simp only [List.length_map, List.length_append, List.length_cons, List.length_nil] at *; omega) | (simp; omega))); (case b2 => (first | omega | (simp only [List.length_map, List.length_append, List.length_cons, List.length_nil] at *; omega) | (simp; omega)))) | (refine VOps.vp (by rfl) (by kernel_rfl) (by rfl) (VPure.field_nest rfl rfl rfl ?b1) ?_; (case b1 => (first | omega | (simp only [List.length_map, List.length_append, List.length_cons, List.length_nil] at *; omega) | (simp; omega)))) | refine VOps.vv (by rfl) (by kernel_rfl) (by rfl) (VLoad.datm rfl rfl rfl (by rfl) (by assumption) (by rfl) rfl (by decide)) ?_)) | refine VCode.seq ?_ | refine VCode.region rfl ?_ | refine VCode.block ?_ | refine VCode.skip ?_))
    refine VOps.bool (d := 28) rfl (fun h1 => ?_) (fun h1 => ?_)
    · (repeat (first | ((with_reducible refine VOps.same ?_); (first | (refine VOps.nil ?_; try dsimp only [VThen, VBlock]) | refine VOps.vp (by rfl) (by kernel_rfl) (by rfl) (VPure.move rfl rfl) ?_ | refine VOps.vp (by rfl) (by kernel_rfl) (by rfl) (VPure.field_ptr rfl rfl rfl) ?_ | refine VOps.vv (by rfl) (by kernel_rfl) (by rfl) (VLoad.box1 rfl rfl rfl rfl (by rfl) (by decide)) ?_ | refine VOps.vp (by rfl) (by kernel_rfl) (by rfl) (VPure.eqi rfl rfl rfl) ?_ | refine VOps.vp (by rfl) (by kernel_rfl) (by rfl) (VPure.pick_t rfl rfl rfl) ?_ | refine VOps.vp (by rfl) (by kernel_rfl) (by rfl) (VPure.nilCheck_ptr rfl rfl rfl) ?_ | (refine VOps.vp (by rfl) (by kernel_rfl) (by rfl) (VPure.idx_nest rfl rfl rfl rfl ?b1 ?b2) ?_; (case b1 => (first | omega | (simp only [List.length_map, List.length_append, List.length_cons, List.length_nil] at *; omega) | (simp; omega))); (case b2 => (first | omega | (simp only [List.length_map, List.length_append, List.length_cons, List.length_nil] at *; omega) | (simp; omega)))) | (refine VOps.vp (by rfl) (by kernel_rfl) (by rfl) (VPure.field_nest rfl rfl rfl ?b1) ?_; (case b1 => (first | omega | (simp only [List.length_map, List.length_append, List.length_cons, List.length_nil] at *; omega) | (simp; omega)))) | refine VOps.vv (by rfl) (by kernel_rfl) (by rfl) (VLoad.datm rfl rfl rfl (by rfl) (by assumption) (by rfl) rfl (by decide)) ?_))))
      refine VCode.cond rfl (fun h2 => ?_) (fun h2 => ?_)
      · have hi := find_at ht ((isNd_is sym pos u).2 (by rw [of_decide_eq_true h1, of_decide_eq_true h2])) hb
        have e1 : nodeAt l sym pos = k := by unfold nodeAt; rw [hi]; rfl
        have e2 : thereB l sym pos = true := by unfold thereB; rw [hi]; rfl
        have e3 : addNode l sym pos = l := by unfold addNode; rw [if_pos e2]
        (repeat (first | ((with_reducible refine VOps.same ?_); (first | (refine VOps.nil ?_; try dsimp only [VThen, VBlock]) | refine VOps.vp (by rfl) (by kernel_rfl) (by rfl) (VPure.move rfl rfl) ?_ | refine VOps.vp (by rfl) (by kernel_rfl) (by rfl) (VPure.assign rfl rfl) ?_)) | refine VCode.seq ?_ | refine VCode.region rfl ?_))
        refine VCode.again (id := 1) rfl ?_
        refine VCode.ret ?_
        rw [e1, e2, e3]
        (show Less cx _ _; refine Less.mkx (l := [0, 1, 2]) (st' := ⟨[(6, .val (.int .i64 (k : Int))), (7, .val (.bool false))], [(0, .cells 28 [.ref 2]), (2, .nest 64 4 (l.map rowR) none)], 3⟩) 2 hcx (Nat.le_of_ble_eq_true rfl) (by decide) ?ss ?hh rfl (by decide) rfl ⟨_, (.tmp rfl (.tmp rfl .nil)), rfl, rfl, rfl⟩; (case ss => repeat (first | exact SubS.nil | refine SubS.cons rfl rfl ?_ | refine SubS.cons (congrArg (fun z => some (V.val (Value.int IntKind.i64 z))) (by omega)) rfl ?_ | refine SubS.cons (congrArg (fun z => some (V.val (Value.bool z))) (by assumption)) rfl ?_)); (case hh => repeat (first | exact SubH.nil | refine SubH.cons rfl rfl rfl ?_)))
      · (repeat (first | ((with_reducible refine VOps.same ?_); (first | (refine VOps.nil ?_; try dsimp only [VThen, VBlock]) | refine VOps.vp (by rfl) (by kernel_rfl) (by rfl) (VPure.move rfl rfl) ?_ | refine VOps.vp (by rfl) (by kernel_rfl) (by rfl) (VPure.assign rfl rfl) ?_ | refine VOps.vp (by rfl) (by kernel_rfl) (by rfl) (VPure.addK rfl rfl rfl (by omega)) ?_)) | refine VCode.region rfl ?_ | refine VCode.skip ?_))
        (refine Less.mkx (l := [0, 1]) 2 hcx (by exact Nat.le_of_ble_eq_true rfl) (by decide) ?ss ?hh rfl (by decide) rfl ⟨_, ?_, k + 1, by omega, rfl, ?_, rfl⟩; (case ss => repeat (first | exact SubS.nil | refine SubS.cons rfl rfl ?_ | refine SubS.cons (congrArg (fun z => some (V.val (Value.int IntKind.i64 z))) (by omega)) rfl ?_ | refine SubS.cons (congrArg (fun z => some (V.val (Value.bool z))) (by assumption)) rfl ?_)); (case hh => repeat (first | exact SubH.nil | refine SubH.cons rfl rfl rfl ?_)))
        · omega
        · intro v hv
          rw [List.take_add_one, ht] at hv
          rcases List.mem_append.1 hv with h | h
          · exact hb v h
          · obtain rfl := List.mem_singleton.1 h
            exact isNd_f (fun _ e => of_decide_eq_false h2 e)
    · (repeat (first | ((with_reducible refine VOps.same ?_); (first | (refine VOps.nil ?_; try dsimp only [VThen, VBlock]) | refine VOps.vp (by rfl) (by kernel_rfl) (by rfl) (VPure.pick_f rfl rfl rfl) ?_ | refine VOps.passv rfl (by kernel_rfl) rfl ?_))))
      refine VCode.cond_f rfl rfl ?_
      (repeat (first | ((with_reducible refine VOps.same ?_); (first | (refine VOps.nil ?_; try dsimp only [VThen, VBlock]) | refine VOps.vp (by rfl) (by kernel_rfl) (by rfl) (VPure.move rfl rfl) ?_ | refine VOps.vp (by rfl) (by kernel_rfl) (by rfl) (VPure.assign rfl rfl) ?_ | refine VOps.vp (by rfl) (by kernel_rfl) (by rfl) (VPure.addK rfl rfl rfl (by omega)) ?_)) | refine VCode.region rfl ?_ | refine VCode.skip ?_))
      (refine Less.mkx (l := [0, 1]) 2 hcx (by exact Nat.le_of_ble_eq_true rfl) (by decide) ?ss ?hh rfl (by decide) rfl ⟨_, ?_, k + 1, by omega, rfl, ?_, rfl⟩; (case ss => repeat (first | exact SubS.nil | refine SubS.cons rfl rfl ?_ | refine SubS.cons (congrArg (fun z => some (V.val (Value.int IntKind.i64 z))) (by omega)) rfl ?_ | refine SubS.cons (congrArg (fun z => some (V.val (Value.bool z))) (by assumption)) rfl ?_)); (case hh => repeat (first | exact SubH.nil | refine SubH.cons rfl rfl rfl ?_)))
      · omega
      · intro v hv
        rw [List.take_add_one, ht] at hv
        rcases List.mem_append.1 hv with h | h
        · exact hb v h
        · obtain rfl := List.mem_singleton.1 h
          exact isNd_f (fun e _ => of_decide_eq_false h1 e)
  | none =>
    have hge : l.length ≤ k := List.getElem?_eq_none_iff.1 ht
    rw [List.take_of_length_le hge] at hb
    have hi : l.findIdx? (isNd sym pos) = none := List.findIdx?_eq_none_iff.2 hb
    have e1 : nodeAt l sym pos = l.length := by unfold nodeAt; rw [hi]; rfl
    have e2 : thereB l sym pos = false := by unfold thereB; rw [hi]; rfl
    have e3 : addNode l sym pos = l ++ [Nd.mk sym pos [] []] := by unfold addNode; rw [if_neg (by rw [e2]; exact Bool.false_ne_true)]
    have hll : (l ++ [Nd.mk sym pos [] []]).length = l.length + 1 := by simp
    (repeat (first | ((with_reducible refine VOps.same ?_); (first | (refine VOps.nil ?_; try dsimp only [VThen, VBlock]) | refine VOps.vp (by rfl) (by kernel_rfl) (by rfl) (VPure.move rfl rfl) ?_ | refine VOps.vp (by rfl) (by kernel_rfl) (by rfl) (VPure.field_ptr rfl rfl rfl) ?_ | refine VOps.vv (by rfl) (by kernel_rfl) (by rfl) (VLoad.box1 rfl rfl rfl rfl (by rfl) (by decide)) ?_ | refine VOps.vp (by rfl) (by kernel_rfl) (by rfl) (VPure.lss rfl rfl rfl) ?_ | refine VOps.vp (by rfl) (by kernel_rfl) (by rfl) (VPure.nilCheck_ptr rfl rfl rfl) ?_ | refine VOps.vp (by rfl) (by kernel_rfl) (by rfl) (VPure.len_nestm TI.und' rfl rfl rfl) ?_)) | refine VCode.seq ?_ | refine VCode.region rfl ?_))
    refine VCode.cond_f rfl (decide_eq_false (by omega)) ?_
    (repeat (first | ((with_reducible refine VOps.same ?_); (first | refine VOps.vp (by rfl) (by kernel_rfl) (by rfl) (VPure.move rfl rfl) ?_ | refine VOps.vp (by rfl) (by kernel_rfl) (by rfl) (VPure.field_ptr rfl rfl rfl) ?_ | refine VOps.vv (by rfl) (by kernel_rfl) (by rfl) (VLoad.box1 rfl rfl rfl rfl (by rfl) (by decide)) ?_ | refine VOps.vp (by rfl) (by kernel_rfl) (by rfl) (VPure.buildC rfl (by kernel_rfl) rfl (by rfl)) ?_ | refine VOps.one rfl rfl (by kernel_rfl) rfl (by rfl) (by decide) (by decide) rfl (by rfl) (by rfl) ?_ | refine VOps.vp (by rfl) (by kernel_rfl) (by rfl) (VPure.nilCheck_ptr rfl rfl rfl) ?_)) | refine VCode.seq ?_ | refine VCode.region rfl ?_ | refine VCode.exit ?_))
    refine VOps.append_nest (rows' := (l ++ [Nd.mk sym pos [] []]).map rowR) (fun _ => [.dat (.val (.int .i64 sym)), .dat (.val (.int .i64 pos)), .own 68 2 [], .own 3 1 []]) rfl rfl (by kernel_rfl) rfl (by rfl) (by decide) rfl rfl rfl (.arr rfl) ?hp ?b1 ?b2 (by rw [List.map_append]; rfl) ?_
    case hp =>
      intro row hr
      obtain rfl := List.mem_singleton.1 hr
      exact .cons (.dat _) (.cons (.dat _) (.cons (.nil 68 2) (.cons (.nil 3 1) .nil)))
    case b1 => simp only [List.length_map, List.length_cons, List.length_nil]; unfold most; omega
    case b2 => simp only [List.length_map, List.length_cons, List.length_nil]; unfold most; omega
    (repeat (first | ((with_reducible refine VOps.same ?_); (first | (refine VOps.nil ?_; try dsimp only [VThen, VBlock]) | refine VOps.vp (by rfl) (by kernel_rfl) (by rfl) (VPure.move rfl rfl) ?_ | refine VOps.vp (by rfl) (by kernel_rfl) (by rfl) (VPure.assign rfl rfl) ?_ | refine VOps.vp (by rfl) (by kernel_rfl) (by rfl) (VPure.field_ptr rfl rfl rfl) ?_ | refine VOps.vv (by rfl) (by kernel_rfl) (by rfl) (VLoad.box1 rfl rfl rfl rfl (by rfl) (by decide)) ?_ | refine VOps.vp (by rfl) (by kernel_rfl) (by rfl) (VPure.subK rfl rfl rfl (by omega)) ?_ | refine VOps.store rfl rfl (by kernel_rfl) rfl rfl rfl rfl rfl rfl (Nat.le_of_ble_eq_true (by rfl)) rfl ?_ | refine VOps.vp (by rfl) (by kernel_rfl) (by rfl) (VPure.nilCheck_ptr rfl rfl rfl) ?_ | refine VOps.vp (by rfl) (by kernel_rfl) (by rfl) (VPure.len_nestm TI.und' rfl rfl rfl) ?_)) | refine VCode.seq ?_ | refine VCode.region rfl ?_))
    refine VCode.says (d := 6) (v := .val (.int .i64 (l.length : Int))) rfl (by rw [hll]; congr 2; omega) ?_
    refine VCode.ret ?_
    rw [e1, e2, e3]
    (show Less cx _ _; refine Less.mkx (l := [0, 1, 3]) (st' := ⟨[(6, .val (.int .i64 (l.length : Int))), (7, .val (.bool true))], [(0, .cells 28 [.ref 2]), (2, .nest 64 4 ((l ++ [Nd.mk sym pos [] []]).map rowR) none)], 3⟩) 2 hcx (Nat.le_of_ble_eq_true rfl) (by decide) ?ss ?hh rfl (by decide) rfl ⟨_, (.tmp rfl (.tmp rfl .nil)), rfl, rfl, rfl⟩; (case ss => repeat (first | exact SubS.nil | refine SubS.cons rfl rfl ?_ | refine SubS.cons (congrArg (fun z => some (V.val (Value.int IntKind.i64 z))) (by omega)) rfl ?_ | refine SubS.cons (congrArg (fun z => some (V.val (Value.bool z))) (by assumption)) rfl ?_)); (case hh => repeat (first | exact SubH.nil | refine SubH.cons rfl rfl rfl ?_)))
def nodeOf (l : List Nd) (n : Int) : Nd := if hasB l n then (l[n.toNat]?).getD ⟨0, 0, [], []⟩ else ⟨0, 0, [], []⟩
set_option maxHeartbeats 4000000 in
theorem rof_v (l : List Nd) (n : Int) : VCalls Try.prog 27 [.el [.sl 4 (l.map encRd)], .val (.int .i64 n)] [] 0 (Gives (.agg ((encRd (nodeOf l n)).map D.toV))) := by
  refine VCalls.enterD (n := 17) Try.func27 rfl rfl (by simp) rfl (fun cx hcx => ?_)
  (repeat (first | ((with_reducible refine VOps.same ?_); (first | (refine VOps.nil ?_; try dsimp only [VThen, VBlock]) | refine VOps.vp (by rfl) (by kernel_rfl) (by rfl) (VPure.move rfl rfl) ?_ | refine VOps.alloc rfl rfl (by kernel_rfl) rfl (by kernel_rfl) rfl ?_)) | refine VCode.seq ?_ | refine VCode.region rfl ?_))
  refine VOps.pure rfl Try.func25 rfl (by kernel_rfl) rfl rfl rfl rfl rfl rfl rfl (rhas_v (l.map encRd) n) ?_
  (repeat (first | ((with_reducible refine VOps.same ?_); (first | (refine VOps.nil ?_; try dsimp only [VThen, VBlock]) | refine VOps.vp (by rfl) (by kernel_rfl) (by rfl) (VPure.not rfl rfl) ?_))))
  refine VCode.cond rfl (fun h => ?_) (fun h => ?_)
  · have h := bnot_t h
    rw [List.length_map] at h
    have e : nodeOf l n = ⟨0, 0, [], []⟩ := by unfold nodeOf; rw [if_neg (by rw [show hasB l n = false from h]; exact Bool.false_ne_true)]
    (repeat (first | ((with_reducible refine VOps.same ?_); (first | (refine VOps.nil ?_; try dsimp only [VThen, VBlock]) | refine VOps.vp (by rfl) (by kernel_rfl) (by rfl) (VPure.buildC rfl (by kernel_rfl) rfl (by rfl)) ?_ | refine VOps.store rfl rfl (by kernel_rfl) rfl rfl rfl rfl rfl rfl (Nat.le_of_ble_eq_true (by rfl)) rfl ?_)) | refine VCode.seq ?_ | refine VCode.region rfl ?_))
    refine VCode.nilC 0 2 2 rfl rfl rfl ?_
    refine VCode.nilC 0 3 1 rfl rfl rfl ?_
    refine VCode.retD rfl rfl (.cellA rfl rfl rfl (by decide) .nil) ?_
    rw [e]; rfl
  · have h := bnot_f h
    rw [List.length_map] at h
    obtain ⟨k, u, rfl, hu, hk⟩ := hasB_some (show hasB l n = true from h)
    have e : nodeOf l k = u := by unfold nodeOf; rw [if_pos (show hasB l k = true from h), Int.toNat_natCast, hu]; rfl
    (repeat (first | ((with_reducible refine VOps.same ?_); (first | (refine VOps.nil ?_; try dsimp only [VThen, VBlock]) | refine VOps.vp (by rfl) (by kernel_rfl) (by rfl) (VPure.move rfl rfl) ?_ | refine VOps.vp (by rfl) (by kernel_rfl) (by rfl) (VPure.idx_map rfl rfl rfl (by assumption)) ?_ | refine VOps.vp (by rfl) (by kernel_rfl) (by rfl) (VPure.field_el rfl rfl) ?_ | refine VOps.vv (by rfl) (by kernel_rfl) (by rfl) (VLoad.el1 rfl rfl rfl (by rfl)) ?_ | refine VOps.vv (by rfl) (by kernel_rfl) (by rfl) (VLoad.elA rfl rfl (by rfl) (Nat.le_of_ble_eq_true (by rfl))) ?_ | refine VOps.store rfl rfl (by kernel_rfl) rfl rfl rfl rfl rfl rfl (Nat.le_of_ble_eq_true (by rfl)) rfl ?_ | refine VOps.vp (by rfl) (by kernel_rfl) (by rfl) (VPure.nilCheck_el rfl rfl) ?_)) | refine VCode.seq ?_ | refine VCode.region rfl ?_ | refine VCode.skip ?_))
    refine VCode.retD rfl rfl (.cellA rfl rfl rfl (Nat.le_of_ble_eq_true rfl) .nil) ?_
    rw [e]; rfl
set_option maxHeartbeats 4000000 in
theorem rcounts_v (l : List Nd) (hl : l.length ≤ 1000000) (hE : sumE l ≤ 1000000000000000) (hP : sumP l ≤ 1000000000000000) : VCalls Try.prog 16 [.el [.sl 4 (l.map encRd)]] [] 0 (Gives (.tup [.val (.int .i64 (sumE l : Int)), .val (.int .i64 (sumP l : Int))])) := by
  refine VCalls.enterD (n := 40) Try.func16 rfl rfl (by simp) rfl (fun cx hcx => ?_)
  (repeat (first | ((with_reducible refine VOps.same ?_); (first | (refine VOps.nil ?_; try dsimp only [VThen, VBlock]) | refine VOps.vp (by rfl) (by kernel_rfl) (by rfl) (VPure.assign rfl rfl) ?_)) | refine VCode.seq ?_ | refine VCode.region rfl ?_ | refine VCode.block ?_))
  refine VCode.loop (fun m st => ∃ k : Nat, k ≤ l.length ∧ m = l.length - k ∧ st = ⟨[(6, .val (.int .i64 (k : Int))), (0, .el [.sl 4 (l.map encRd)]), (4, .val (.int .i64 (sumE (l.take k) : Int))), (5, .val (.int .i64 (sumP (l.take k) : Int)))], [], 0⟩) l.length ?_ ?_
  · (refine Less.mk (l := []) hcx ?ss ?hh rfl (by decide) rfl ⟨0, by omega, by omega, rfl⟩; (case ss => repeat (first | exact SubS.nil | refine SubS.cons rfl rfl ?_ | refine SubS.cons (congrArg (fun z => some (V.val (Value.int IntKind.i64 z))) (by omega)) rfl ?_ | refine SubS.cons (congrArg (fun z => some (V.val (Value.bool z))) (by assumption)) rfl ?_)); (case hh => repeat (first | exact SubH.nil | refine SubH.cons rfl rfl rfl ?_)))
  rintro m st ⟨k, hk, rfl, rfl⟩
  cases ht : l[k]? with
  | some u =>
    have hlt : k < l.length := (List.getElem?_eq_some_iff.1 ht).1
    have s1 : sumE (l.take (k + 1)) = sumE (l.take k) + u.e.length := by unfold sumE lensE; rw [List.take_add_one, ht]; simp
    have s2 : sumP (l.take (k + 1)) = sumP (l.take k) + u.p.length := by unfold sumP lensP; rw [List.take_add_one, ht]; simp
    have b1 : sumE (l.take (k + 1)) ≤ sumE l := by
      have : sumE (l.take (k + 1) ++ l.drop (k + 1)) = sumE (l.take (k + 1)) + sumE (l.drop (k + 1)) := by unfold sumE lensE; rw [List.map_append, List.sum_append]
      rw [List.take_append_drop] at this; omega
    have b2 : sumP (l.take (k + 1)) ≤ sumP l := by
      have : sumP (l.take (k + 1) ++ l.drop (k + 1)) = sumP (l.take (k + 1)) + sumP (l.drop (k + 1)) := by unfold sumP lensP; rw [List.map_append, List.sum_append]
      rw [List.take_append_drop] at this; omega
    (repeat (first | ((with_reducible refine VOps.same ?_); (first | (refine VOps.nil ?_; try dsimp only [VThen, VBlock]) | refine VOps.vp (by rfl) (by kernel_rfl) (by rfl) (VPure.move rfl rfl) ?_ | refine VOps.vp (by rfl) (by kernel_rfl) (by rfl) (VPure.len_map TI.und' rfl rfl) ?_ | refine VOps.vp (by rfl) (by kernel_rfl) (by rfl) (VPure.field_el rfl rfl) ?_ | refine VOps.vv (by rfl) (by kernel_rfl) (by rfl) (VLoad.el1 rfl rfl rfl (by rfl)) ?_ | refine VOps.vp (by rfl) (by kernel_rfl) (by rfl) (VPure.lss rfl rfl rfl) ?_ | refine VOps.vp (by rfl) (by kernel_rfl) (by rfl) (VPure.nilCheck_el rfl rfl) ?_)) | refine VCode.seq ?_ | refine VCode.region rfl ?_))
    refine VCode.cond_t rfl (decide_eq_true (by omega)) ?_
    (repeat (first | ((with_reducible refine VOps.same ?_); (first | (refine VOps.nil ?_; try dsimp only [VThen, VBlock]) | refine VOps.vp (by rfl) (by kernel_rfl) (by rfl) (VPure.move rfl rfl) ?_ | refine VOps.vp (by rfl) (by kernel_rfl) (by rfl) (VPure.assign rfl rfl) ?_ | refine VOps.vp (by rfl) (by kernel_rfl) (by rfl) (VPure.len_map TI.und' rfl rfl) ?_ | refine VOps.vp (by rfl) (by kernel_rfl) (by rfl) (VPure.idx_map rfl rfl rfl (by assumption)) ?_ | refine VOps.vp (by rfl) (by kernel_rfl) (by rfl) (VPure.field_el rfl rfl) ?_ | refine VOps.vv (by rfl) (by kernel_rfl) (by rfl) (VLoad.el1 rfl rfl rfl (by rfl)) ?_ | refine VOps.vp (by rfl) (by kernel_rfl) (by rfl) (VPure.addK rfl rfl rfl (by omega)) ?_ | refine VOps.vp (by rfl) (by kernel_rfl) (by rfl) (VPure.nilCheck_el rfl rfl) ?_)) | refine VCode.seq ?_ | refine VCode.region rfl ?_ | refine VCode.block ?_ | refine VCode.skip ?_))
    (refine Less.mk (l := []) hcx ?ss ?hh rfl (by decide) rfl ⟨_, ?_, k + 1, by omega, rfl, rfl⟩; (case ss => repeat (first | exact SubS.nil | refine SubS.cons rfl rfl ?_ | refine SubS.cons (congrArg (fun z => some (V.val (Value.int IntKind.i64 z))) (by omega)) rfl ?_ | refine SubS.cons (congrArg (fun z => some (V.val (Value.bool z))) (by assumption)) rfl ?_)); (case hh => repeat (first | exact SubH.nil | refine SubH.cons rfl rfl rfl ?_)))
    omega
  | none =>
    have hge : l.length ≤ k := List.getElem?_eq_none_iff.1 ht
    obtain rfl : k = l.length := by omega
    rw [List.take_length]
    (repeat (first | ((with_reducible refine VOps.same ?_); (first | (refine VOps.nil ?_; try dsimp only [VThen, VBlock]) | refine VOps.vp (by rfl) (by kernel_rfl) (by rfl) (VPure.move rfl rfl) ?_ | refine VOps.vp (by rfl) (by kernel_rfl) (by rfl) (VPure.len_map TI.und' rfl rfl) ?_ | refine VOps.vp (by rfl) (by kernel_rfl) (by rfl) (VPure.field_el rfl rfl) ?_ | refine VOps.vv (by rfl) (by kernel_rfl) (by rfl) (VLoad.el1 rfl rfl rfl (by rfl)) ?_ | refine VOps.vp (by rfl) (by kernel_rfl) (by rfl) (VPure.lss rfl rfl rfl) ?_ | refine VOps.vp (by rfl) (by kernel_rfl) (by rfl) (VPure.nilCheck_el rfl rfl) ?_)) | refine VCode.seq ?_ | refine VCode.region rfl ?_))
    refine VCode.cond_f rfl (decide_eq_false (by omega)) ?_
    (repeat (first | ((with_reducible refine VOps.same ?_); (first | (refine VOps.nil ?_; try dsimp only [VThen, VBlock]) | refine VOps.vp (by rfl) (by kernel_rfl) (by rfl) (VPure.move rfl rfl) ?_ | refine VOps.vp (by rfl) (by kernel_rfl) (by rfl) (VPure.assign rfl rfl) ?_)) | refine VCode.seq ?_ | refine VCode.region rfl ?_ | refine VCode.exit ?_))
    refine VCode.retD rfl rfl (.tmp rfl (.tmp rfl .nil)) ?_
    rfl
end Go.Proofs.Ytdkgbkmaeeicoaa.V
