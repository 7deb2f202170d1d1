/- close: IndexFunc, ContainsFunc, net.Good, close.may. -/
import Derived.Test.YtbpjlpokmnmmmaaVNet
set_option linter.unusedVariables false
set_option linter.unusedSimpArgs false
namespace Go.Proofs.Ytbpjlpokmnmmmaa.V
open Go Go.RowKit
def bad (n : Nat) (e : NEdge) : Bool := decide (e.1 < -1) || (decide (e.2 < 0) || decide ((n : Int) ≤ e.2))
def firstAt {α : Type} (p : α → Bool) (l : List α) : Int := match l.findIdx? p with
  | some i => (i : Int)
  | none => -1
theorem firstAt_some {α : Type} {p : α → Bool} {l : List α} {k : Nat} {x : α} (h : l[k]? = some x) (hp : p x = true) (hb : ∀ y ∈ l.take k, p y = false) : firstAt p l = (k : Int) := by
  have hlt := (List.getElem?_eq_some_iff.1 h).1
  have : l.findIdx? p = some k := by
    rw [List.findIdx?_eq_some_iff_getElem]
    refine ⟨hlt, ?_, fun j hj => ?_⟩
    · have := (List.getElem?_eq_some_iff.1 h).2; rw [this]; exact hp
    · have := hb l[j] (List.mem_take_iff_getElem.2 ⟨j, by omega, rfl⟩)
      simp [this]
  unfold firstAt; rw [this]
theorem firstAt_none {α : Type} {p : α → Bool} {l : List α} (hb : ∀ y ∈ l, p y = false) : firstAt p l = -1 := by
  have : l.findIdx? p = none := by rw [List.findIdx?_eq_none_iff]; exact hb
  unfold firstAt; rw [this]
theorem firstAt_ge {α : Type} (p : α → Bool) (l : List α) : decide (0 ≤ firstAt p l) = l.any p := by
  unfold firstAt
  cases h : l.findIdx? p with
  | some i =>
    have := List.findIdx?_isSome (xs := l) (p := p)
    rw [h] at this
    rw [← this]; simp
  | none =>
    have := List.findIdx?_isSome (xs := l) (p := p)
    rw [h] at this
    rw [← this]; simp
set_option maxHeartbeats 1000000 in
theorem good1_v (n : Nat) (e : NEdge) : VCalls Try.prog 38 [.agg [.val (.int .i64 e.1), .val (.int .i64 e.2)], .ptr 0 0] [(0, .cells 3 [.val (.int .i64 (n : Int))])] 1 (Leaves (.val (.bool (bad n e))) [(0, .cells 3 [.val (.int .i64 (n : Int))])] 1) := by
  refine VCalls.enterL (n := 18) Try.func38 rfl rfl (by simp) (fun cx hcx => ?_)
  (repeat (first | ((with_reducible refine VOps.same ?_); (first | (refine VOps.nil ?_; try dsimp only [VThen, VBlock]) | refine VOps.vp (by rfl) (by kernel_rfl) (by rfl) (VPure.move rfl rfl) ?_ | refine VOps.vp (by rfl) (by kernel_rfl) (by rfl) (VPure.assign rfl rfl) ?_ | refine VOps.vp (by rfl) (by kernel_rfl) (by rfl) (VPure.field_ptr rfl rfl rfl) ?_ | refine VOps.vv (by rfl) (by kernel_rfl) (by rfl) (VLoad.box1 rfl rfl rfl rfl (by rfl) (by decide)) ?_ | refine VOps.vp (by rfl) (by kernel_rfl) (by rfl) (VPure.lss rfl rfl rfl) ?_ | refine VOps.box rfl rfl (by kernel_rfl) rfl rfl rfl rfl ?_)) | refine VCode.seq ?_ | refine VCode.region rfl ?_))
  refine VOps.bool (d := 7) rfl (fun h1 => ?_) (fun h1 => ?_)
  · (repeat (first | ((with_reducible refine VOps.same ?_); (first | (refine VOps.nil ?_; try dsimp only [VThen, VBlock]) | refine VOps.vp (by rfl) (by kernel_rfl) (by rfl) (VPure.move rfl rfl) ?_ | refine VOps.vp (by rfl) (by kernel_rfl) (by rfl) (VPure.assign rfl rfl) ?_ | refine VOps.vp (by rfl) (by kernel_rfl) (by rfl) (VPure.pick_t rfl rfl rfl) ?_ | refine VOps.passv rfl (by kernel_rfl) rfl ?_))))
    refine VCode.ret ?_
    have hb : true = bad n e := by unfold bad; rw [h1]; rfl
    (show Less cx _ _; refine Less.mkx (l := [0]) (st' := ⟨[(3, .val (.bool (bad n e)))], [(0, .cells 3 [.val (.int .i64 (n : Int))])], 1⟩) 1 hcx (Nat.le_of_ble_eq_true rfl) (by decide) ?ss ?hh rfl (by decide) rfl ⟨_, (.tmp rfl .nil), rfl, rfl, rfl⟩; (case ss => repeat (first | exact SubS.nil | refine SubS.cons rfl rfl ?_ | refine SubS.cons (congrArg (fun z => some (V.val (Value.int IntKind.i64 z))) (by omega)) rfl ?_ | refine SubS.cons (congrArg (fun z => some (V.val (Value.bool z))) (by assumption)) rfl ?_)); (case hh => repeat (first | exact SubH.nil | refine SubH.cons rfl rfl rfl ?_)))
  (repeat (first | ((with_reducible refine VOps.same ?_); (first | refine VOps.vp (by rfl) (by kernel_rfl) (by rfl) (VPure.move rfl rfl) ?_ | refine VOps.vp (by rfl) (by kernel_rfl) (by rfl) (VPure.field_ptr rfl rfl rfl) ?_ | refine VOps.vv (by rfl) (by kernel_rfl) (by rfl) (VLoad.box1 rfl rfl rfl rfl (by rfl) (by decide)) ?_ | refine VOps.vp (by rfl) (by kernel_rfl) (by rfl) (VPure.lss rfl rfl rfl) ?_ | refine VOps.vp (by rfl) (by kernel_rfl) (by rfl) (VPure.pick_f rfl rfl rfl) ?_))))
  refine VOps.bool (d := 12) rfl (fun h2 => ?_) (fun h2 => ?_)
  · (repeat (first | ((with_reducible refine VOps.same ?_); (first | (refine VOps.nil ?_; try dsimp only [VThen, VBlock]) | refine VOps.vp (by rfl) (by kernel_rfl) (by rfl) (VPure.assign rfl rfl) ?_ | refine VOps.vp (by rfl) (by kernel_rfl) (by rfl) (VPure.pick_t rfl rfl rfl) ?_ | refine VOps.passv rfl (by kernel_rfl) rfl ?_))))
    refine VCode.ret ?_
    have hb : true = bad n e := by unfold bad; rw [h1, h2]; rfl
    (show Less cx _ _; refine Less.mkx (l := [0]) (st' := ⟨[(3, .val (.bool (bad n e)))], [(0, .cells 3 [.val (.int .i64 (n : Int))])], 1⟩) 1 hcx (Nat.le_of_ble_eq_true rfl) (by decide) ?ss ?hh rfl (by decide) rfl ⟨_, (.tmp rfl .nil), rfl, rfl, rfl⟩; (case ss => repeat (first | exact SubS.nil | refine SubS.cons rfl rfl ?_ | refine SubS.cons (congrArg (fun z => some (V.val (Value.int IntKind.i64 z))) (by omega)) rfl ?_ | refine SubS.cons (congrArg (fun z => some (V.val (Value.bool z))) (by assumption)) rfl ?_)); (case hh => repeat (first | exact SubH.nil | refine SubH.cons rfl rfl rfl ?_)))
  (repeat (first | ((with_reducible refine VOps.same ?_); (first | (refine VOps.nil ?_; try dsimp only [VThen, VBlock]) | refine VOps.vp (by rfl) (by kernel_rfl) (by rfl) (VPure.assign rfl rfl) ?_ | refine VOps.vp (by rfl) (by kernel_rfl) (by rfl) (VPure.field_ptr rfl rfl rfl) ?_ | refine VOps.vv (by rfl) (by kernel_rfl) (by rfl) (VLoad.box1 rfl rfl rfl rfl (by rfl) (by decide)) ?_ | refine VOps.vp (by rfl) (by kernel_rfl) (by rfl) (VPure.geq rfl rfl rfl) ?_ | refine VOps.vp (by rfl) (by kernel_rfl) (by rfl) (VPure.pick_f rfl rfl rfl) ?_))))
  refine VCode.ret ?_
  have hb : decide ((n : Int) ≤ e.2) = bad n e := by unfold bad; rw [h1, h2]; rfl
  (show Less cx _ _; refine Less.mkx (l := [0]) (st' := ⟨[(3, .val (.bool (bad n e)))], [(0, .cells 3 [.val (.int .i64 (n : Int))])], 1⟩) 1 hcx (Nat.le_of_ble_eq_true rfl) (by decide) ?ss ?hh rfl (by decide) rfl ⟨_, (.tmp rfl .nil), rfl, rfl, rfl⟩; (case ss => repeat (first | exact SubS.nil | refine SubS.cons rfl rfl ?_ | refine SubS.cons (congrArg (fun z => some (V.val (Value.int IntKind.i64 z))) (by omega)) rfl ?_ | refine SubS.cons (congrArg (fun z => some (V.val (Value.bool z))) (by assumption)) rfl ?_)); (case hh => repeat (first | exact SubH.nil | refine SubH.cons rfl rfl rfl ?_)))
set_option maxHeartbeats 1000000 in
theorem idxE_v (n : Nat) (l : List NEdge) (hl : l.length ≤ 1000000) : VCalls Try.prog 51 [.sl 2 (l.map encE), .fn 38 [.ptr 0 0]] [(0, .cells 3 [.val (.int .i64 (n : Int))])] 1 (Leaves (.val (.int .i64 (firstAt (bad n) l))) [(0, .cells 3 [.val (.int .i64 (n : Int))])] 1) := by
  refine VCalls.enterL (n := 19) Try.func51 rfl rfl (by simp) (fun cx hcx => ?_)
  (repeat (first | ((with_reducible refine VOps.same ?_); (first | (refine VOps.nil ?_; try dsimp only [VThen, VBlock]) | refine VOps.vp (by rfl) (by kernel_rfl) (by rfl) (VPure.move rfl rfl) ?_ | refine VOps.vp (by rfl) (by kernel_rfl) (by rfl) (VPure.assign rfl rfl) ?_ | refine VOps.vp (by rfl) (by kernel_rfl) (by rfl) (VPure.len_map TI.und' rfl rfl) ?_)) | refine VCode.seq ?_ | refine VCode.region rfl ?_ | refine VCode.block ?_))
  refine VCode.loop (fun m st => ∃ k : Nat, k ≤ l.length ∧ m = l.length - k ∧ (∀ y ∈ l.take k, bad n y = false) ∧ st = ⟨[(8, .val (.int .i64 (k : Int))), (7, .val (.int .i64 (l.length : Int))), (0, .sl 2 (l.map encE)), (1, .fn 38 [.ptr 0 0])], [(0, .cells 3 [.val (.int .i64 (n : Int))])], 1⟩) l.length ?_ ?_
  · (refine Less.mkx (l := [0]) 1 hcx (by exact Nat.le_of_ble_eq_true rfl) (by decide) ?ss ?hh rfl (by decide) rfl ⟨0, by omega, by omega, by simp, rfl⟩; (case ss => repeat (first | exact SubS.nil | refine SubS.cons rfl rfl ?_ | refine SubS.cons (congrArg (fun z => some (V.val (Value.int IntKind.i64 z))) (by omega)) rfl ?_ | refine SubS.cons (congrArg (fun z => some (V.val (Value.bool z))) (by assumption)) rfl ?_)); (case hh => repeat (first | exact SubH.nil | refine SubH.cons rfl rfl rfl ?_)))
  rintro m st ⟨k, hk, rfl, hb, rfl⟩
  cases ht : l[k]? with
  | some e =>
    have hlt : k < l.length := (List.getElem?_eq_some_iff.1 ht).1
    (repeat (first | ((with_reducible refine VOps.same ?_); (first | (refine VOps.nil ?_; try dsimp only [VThen, VBlock]) | refine VOps.vp (by rfl) (by kernel_rfl) (by rfl) (VPure.lss rfl rfl rfl) ?_)) | refine VCode.seq ?_ | refine VCode.region rfl ?_))
    refine VCode.cond_t rfl (decide_eq_true (by omega)) ?_
    (repeat (first | ((with_reducible refine VOps.same ?_); (first | (refine VOps.nil ?_; try dsimp only [VThen, VBlock]) | refine VOps.vp (by rfl) (by kernel_rfl) (by rfl) (VPure.move rfl rfl) ?_ | refine VOps.vp (by rfl) (by kernel_rfl) (by rfl) (VPure.assign rfl rfl) ?_ | refine VOps.vp (by rfl) (by kernel_rfl) (by rfl) (VPure.idx_map rfl rfl rfl (by assumption)) ?_ | refine VOps.vv (by rfl) (by kernel_rfl) (by rfl) (VLoad.elA rfl rfl (by rfl) (Nat.le_of_ble_eq_true (by rfl))) ?_)) | refine VCode.seq ?_ | refine VCode.region rfl ?_ | refine VCode.block ?_ | refine VCode.skip ?_))
    (refine VOps.callL (ch := [(0, .cells 3 [.val (.int .i64 (n : Int))])]) [0] rfl Try.func38 rfl (by kernel_rfl) rfl rfl rfl rfl ?hh (by decide) rfl rfl rfl (good1_v n e) rfl (by rfl) rfl ?_; (case hh => repeat (first | exact SubH.nil | refine SubH.cons rfl rfl rfl ?_)))
    (repeat (first | ((with_reducible refine VOps.same ?_); (first | (refine VOps.nil ?_; try dsimp only [VThen, VBlock])))))
    refine VCode.cond rfl (fun hp => ?_) (fun hp => ?_)
    · (repeat (first | ((with_reducible refine VOps.same ?_); (first | (refine VOps.nil ?_; try dsimp only [VThen, VBlock]) | refine VOps.vp (by rfl) (by kernel_rfl) (by rfl) (VPure.move rfl rfl) ?_ | refine VOps.vp (by rfl) (by kernel_rfl) (by rfl) (VPure.assign rfl rfl) ?_)) | refine VCode.seq ?_ | refine VCode.region rfl ?_))
      refine VCode.ret ?_
      have hr : (k : Int) = firstAt (bad n) l := (firstAt_some ht hp hb).symm
      (show Less cx _ _; refine Less.mkx (l := [0]) (st' := ⟨[(4, .val (.int .i64 (firstAt (bad n) l)))], [(0, .cells 3 [.val (.int .i64 (n : Int))])], 1⟩) 1 hcx (Nat.le_of_ble_eq_true rfl) (by decide) ?ss ?hh rfl (by decide) rfl ⟨_, (.tmp rfl .nil), rfl, rfl, rfl⟩; (case ss => repeat (first | exact SubS.nil | refine SubS.cons rfl rfl ?_ | refine SubS.cons (congrArg (fun z => some (V.val (Value.int IntKind.i64 z))) (by omega)) rfl ?_ | refine SubS.cons (congrArg (fun z => some (V.val (Value.bool z))) (by assumption)) rfl ?_)); (case hh => repeat (first | exact SubH.nil | refine SubH.cons rfl rfl rfl ?_)))
    · (repeat (first | ((with_reducible refine VOps.same ?_); (first | (refine VOps.nil ?_; try dsimp only [VThen, VBlock]) | refine VOps.vp (by rfl) (by kernel_rfl) (by rfl) (VPure.move rfl rfl) ?_ | refine VOps.vp (by rfl) (by kernel_rfl) (by rfl) (VPure.addK rfl rfl rfl (by omega)) ?_)) | refine VCode.region rfl ?_ | refine VCode.skip ?_))
      (refine Less.mkx (l := [0]) 1 hcx (by exact Nat.le_of_ble_eq_true rfl) (by decide) ?ss ?hh rfl (by decide) rfl ⟨_, ?_, k + 1, by omega, rfl, ?_, rfl⟩; (case ss => repeat (first | exact SubS.nil | refine SubS.cons rfl rfl ?_ | refine SubS.cons (congrArg (fun z => some (V.val (Value.int IntKind.i64 z))) (by omega)) rfl ?_ | refine SubS.cons (congrArg (fun z => some (V.val (Value.bool z))) (by assumption)) rfl ?_)); (case hh => repeat (first | exact SubH.nil | refine SubH.cons rfl rfl rfl ?_)))
      · omega
      · intro y hy
        rw [List.take_add_one, ht] at hy
        rcases List.mem_append.1 hy with h | h
        · exact hb y h
        · obtain rfl := List.mem_singleton.1 h
          exact hp
  | none =>
    have hge : l.length ≤ k := List.getElem?_eq_none_iff.1 ht
    rw [List.take_of_length_le hge] at hb
    (repeat (first | ((with_reducible refine VOps.same ?_); (first | (refine VOps.nil ?_; try dsimp only [VThen, VBlock]) | refine VOps.vp (by rfl) (by kernel_rfl) (by rfl) (VPure.lss rfl rfl rfl) ?_)) | refine VCode.seq ?_ | refine VCode.region rfl ?_))
    refine VCode.cond_f rfl (decide_eq_false (by omega)) ?_
    (repeat (first | ((with_reducible refine VOps.same ?_); (first | (refine VOps.nil ?_; try dsimp only [VThen, VBlock]) | refine VOps.vp (by rfl) (by kernel_rfl) (by rfl) (VPure.assign rfl rfl) ?_)) | refine VCode.seq ?_ | refine VCode.region rfl ?_ | refine VCode.exit ?_))
    refine VCode.ret ?_
    have hr : -1 = firstAt (bad n) l := (firstAt_none hb).symm
    (show Less cx _ _; refine Less.mkx (l := [0]) (st' := ⟨[(4, .val (.int .i64 (firstAt (bad n) l)))], [(0, .cells 3 [.val (.int .i64 (n : Int))])], 1⟩) 1 hcx (Nat.le_of_ble_eq_true rfl) (by decide) ?ss ?hh rfl (by decide) rfl ⟨_, (.tmp rfl .nil), rfl, rfl, rfl⟩; (case ss => repeat (first | exact SubS.nil | refine SubS.cons rfl rfl ?_ | refine SubS.cons (congrArg (fun z => some (V.val (Value.int IntKind.i64 z))) (by omega)) rfl ?_ | refine SubS.cons (congrArg (fun z => some (V.val (Value.bool z))) (by assumption)) rfl ?_)); (case hh => repeat (first | exact SubH.nil | refine SubH.cons rfl rfl rfl ?_)))
set_option maxHeartbeats 1000000 in
theorem hasE_v (n : Nat) (l : List NEdge) (hl : l.length ≤ 1000000) : VCalls Try.prog 37 [.sl 2 (l.map encE), .fn 38 [.ptr 0 0]] [(0, .cells 3 [.val (.int .i64 (n : Int))])] 1 (Leaves (.val (.bool (l.any (bad n)))) [(0, .cells 3 [.val (.int .i64 (n : Int))])] 1) := by
  refine VCalls.enterL (n := 9) Try.func37 rfl rfl (by simp) (fun cx hcx => ?_)
  (repeat (first | ((with_reducible refine VOps.same ?_); (first | (refine VOps.nil ?_; try dsimp only [VThen, VBlock]) | refine VOps.vp (by rfl) (by kernel_rfl) (by rfl) (VPure.move rfl rfl) ?_ | refine VOps.vp (by rfl) (by kernel_rfl) (by rfl) (VPure.assign rfl rfl) ?_)) | refine VCode.seq ?_ | refine VCode.region rfl ?_))
  (refine VOps.callL (ch := [(0, .cells 3 [.val (.int .i64 (n : Int))])]) [0] rfl Try.func51 rfl (by kernel_rfl) rfl rfl rfl rfl ?hh (by decide) rfl rfl rfl (idxE_v n l hl) rfl (by rfl) rfl ?_; (case hh => repeat (first | exact SubH.nil | refine SubH.cons rfl rfl rfl ?_)))
  (repeat (first | ((with_reducible refine VOps.same ?_); (first | (refine VOps.nil ?_; try dsimp only [VThen, VBlock]) | refine VOps.vp (by rfl) (by kernel_rfl) (by rfl) (VPure.assign rfl rfl) ?_ | refine VOps.vp (by rfl) (by kernel_rfl) (by rfl) (VPure.geq rfl rfl rfl) ?_))))
  refine VCode.ret ?_
  have hr : decide (0 ≤ firstAt (bad n) l) = l.any (bad n) := firstAt_ge _ _
  (show Less cx _ _; refine Less.mkx (l := [0]) (st' := ⟨[(4, .val (.bool (l.any (bad n))))], [(0, .cells 3 [.val (.int .i64 (n : Int))])], 1⟩) 1 hcx (Nat.le_of_ble_eq_true rfl) (by decide) ?ss ?hh rfl (by decide) rfl ⟨_, (.tmp rfl .nil), rfl, rfl, rfl⟩; (case ss => repeat (first | exact SubS.nil | refine SubS.cons rfl rfl ?_ | refine SubS.cons (congrArg (fun z => some (V.val (Value.int IntKind.i64 z))) (by omega)) rfl ?_ | refine SubS.cons (congrArg (fun z => some (V.val (Value.bool z))) (by assumption)) rfl ?_)); (case hh => repeat (first | exact SubH.nil | refine SubH.cons rfl rfl rfl ?_)))
/-- How many edges. -/
def many (n : Net) : Nat := (n.map List.length).sum
def goodNet (n : Net) : Bool := decide (2 ≤ n.length) && decide (n.length ≤ 2000) && n.all (fun l => !l.any (bad n.length)) && decide (many n ≤ 8000)
theorem many_succ {n : Net} {k : Nat} {l : List NEdge} (h : n[k]? = some l) : many (n.take (k + 1)) = many (n.take k) + l.length := by
  unfold many
  rw [List.take_add_one, h]; simp
theorem many_le {n : Net} {k : Nat} : many (n.take k) ≤ many n := by
  have : many (n.take k ++ n.drop k) = many (n.take k) + many (n.drop k) := by unfold many; rw [List.map_append, List.sum_append]
  rw [List.take_append_drop] at this
  omega
theorem many_mem {n : Net} {l : List NEdge} (h : l ∈ n) : l.length ≤ many n := by
  unfold many
  induction n with
  | nil => cases h
  | cons a n ih =>
    rw [List.map_cons, List.sum_cons]
    rcases List.mem_cons.1 h with rfl | h
    · omega
    · have := ih h; omega
set_option maxHeartbeats 2000000 in
theorem good_v (n : Net) (hn : n.length ≤ 1000000) (hm : many n ≤ 1000000) : VCalls Try.prog 30 [netV n] [] 0 (Gives (.val (.bool (goodNet n)))) := by
  refine VCalls.enterD (n := 33) Try.func30 rfl rfl (by simp) rfl (fun cx hcx => ?_)
  (repeat (first | ((with_reducible refine VOps.same ?_); (first | (refine VOps.nil ?_; try dsimp only [VThen, VBlock]) | refine VOps.vp (by rfl) (by kernel_rfl) (by rfl) (VPure.move rfl rfl) ?_ | refine VOps.vp (by rfl) (by kernel_rfl) (by rfl) (VPure.assign rfl rfl) ?_ | refine VOps.vp (by rfl) (by kernel_rfl) (by rfl) (VPure.len_map TI.und' rfl rfl) ?_ | refine VOps.vp (by rfl) (by kernel_rfl) (by rfl) (VPure.field_ptr rfl rfl rfl) ?_ | refine VOps.vv (by rfl) (by kernel_rfl) (by rfl) (VLoad.box1 rfl rfl rfl rfl (by rfl) (by decide)) ?_ | refine VOps.vp (by rfl) (by kernel_rfl) (by rfl) (VPure.lss rfl rfl rfl) ?_ | refine VOps.alloc rfl rfl (by kernel_rfl) rfl (by kernel_rfl) rfl ?_ | refine VOps.box rfl rfl (by kernel_rfl) rfl rfl rfl rfl ?_ | refine VOps.store rfl rfl (by kernel_rfl) rfl rfl rfl rfl rfl rfl (Nat.le_of_ble_eq_true (by rfl)) rfl ?_)) | refine VCode.seq ?_ | refine VCode.region rfl ?_))
  refine VOps.bool (d := 12) rfl (fun h1 => ?_) (fun h1 => ?_)
  · have hg : goodNet n = false := by
      unfold goodNet
      have := of_decide_eq_true h1
      rw [decide_eq_false (by omega)]; rfl
    (repeat (first | ((with_reducible refine VOps.same ?_); (first | (refine VOps.nil ?_; try dsimp only [VThen, VBlock]) | refine VOps.vp (by rfl) (by kernel_rfl) (by rfl) (VPure.pick_t rfl rfl rfl) ?_ | refine VOps.passv rfl (by kernel_rfl) rfl ?_))))
    refine VCode.cond_t rfl rfl ?_
    (repeat (first | ((with_reducible refine VOps.same ?_); (first | (refine VOps.nil ?_; try dsimp only [VThen, VBlock]) | refine VOps.vp (by rfl) (by kernel_rfl) (by rfl) (VPure.assign rfl rfl) ?_)) | refine VCode.seq ?_ | refine VCode.region rfl ?_))
    refine VCode.retD rfl rfl (.tmp rfl .nil) ?_
    rw [hg]; rfl
  (repeat (first | ((with_reducible refine VOps.same ?_); (first | (refine VOps.nil ?_; try dsimp only [VThen, VBlock]) | refine VOps.vv (by rfl) (by kernel_rfl) (by rfl) (VLoad.box1 rfl rfl rfl rfl (by rfl) (by decide)) ?_ | refine VOps.vp (by rfl) (by kernel_rfl) (by rfl) (VPure.gtr rfl rfl rfl) ?_ | refine VOps.vp (by rfl) (by kernel_rfl) (by rfl) (VPure.pick_f rfl rfl rfl) ?_))))
  refine VCode.cond rfl (fun h2 => ?_) (fun h2 => ?_)
  · have hg : goodNet n = false := by
      unfold goodNet
      have := of_decide_eq_true h2
      rw [decide_eq_false (p := n.length ≤ 2000) (by omega)]; simp
    (repeat (first | ((with_reducible refine VOps.same ?_); (first | (refine VOps.nil ?_; try dsimp only [VThen, VBlock]) | refine VOps.vp (by rfl) (by kernel_rfl) (by rfl) (VPure.assign rfl rfl) ?_)) | refine VCode.seq ?_ | refine VCode.region rfl ?_))
    refine VCode.retD rfl rfl (.tmp rfl .nil) ?_
    rw [hg]; rfl
  have h1 : 2 ≤ n.length := by have := of_decide_eq_false h1; omega
  have h2 : n.length ≤ 2000 := by have := of_decide_eq_false h2; omega
  (repeat (first | ((with_reducible refine VOps.same ?_); (first | (refine VOps.nil ?_; try dsimp only [VThen, VBlock]) | refine VOps.vp (by rfl) (by kernel_rfl) (by rfl) (VPure.move rfl rfl) ?_ | refine VOps.vp (by rfl) (by kernel_rfl) (by rfl) (VPure.len_map TI.und' rfl rfl) ?_ | refine VOps.vp (by rfl) (by kernel_rfl) (by rfl) (VPure.field_ptr rfl rfl rfl) ?_ | refine VOps.vv (by rfl) (by kernel_rfl) (by rfl) (VLoad.box1 rfl rfl rfl rfl (by rfl) (by decide)) ?_)) | refine VCode.seq ?_ | refine VCode.region rfl ?_ | refine VCode.block ?_ | refine VCode.skip ?_))
  refine VCode.loop (fun m st => ∃ k : Nat, k ≤ n.length ∧ m = n.length - k ∧ (∀ l ∈ n.take k, l.any (bad n.length) = false) ∧ st = ⟨[(19, .val (.int .i64 (k : Int))), (17, .sl 1 (n.map encL)), (18, .val (.int .i64 (n.length : Int))), (3, .ptr 0 0), (4, .val (.int .i64 (many (n.take k) : Int)))], [(0, .cells 3 [.val (.int .i64 (n.length : Int))])], 1⟩) n.length ?_ ?_
  · (refine Less.mk (l := [1]) hcx ?ss ?hh rfl (by decide) rfl ⟨0, by omega, by omega, by simp, rfl⟩; (case ss => repeat (first | exact SubS.nil | refine SubS.cons rfl rfl ?_ | refine SubS.cons (congrArg (fun z => some (V.val (Value.int IntKind.i64 z))) (by omega)) rfl ?_ | refine SubS.cons (congrArg (fun z => some (V.val (Value.bool z))) (by assumption)) rfl ?_)); (case hh => repeat (first | exact SubH.nil | refine SubH.cons rfl rfl rfl ?_)))
  rintro m st ⟨k, hk, rfl, hb, rfl⟩
  have hmk := many_le (n := n) (k := k)
  cases ht : n[k]? with
  | some l =>
    have hlt : k < n.length := (List.getElem?_eq_some_iff.1 ht).1
    have hms := many_succ ht
    have hml := many_le (n := n) (k := k + 1)
    have hll : l.length ≤ 1000000 := Nat.le_trans (many_mem (List.mem_of_getElem? ht)) hm
    (repeat (first | ((with_reducible refine VOps.same ?_); (first | (refine VOps.nil ?_; try dsimp only [VThen, VBlock]) | refine VOps.vp (by rfl) (by kernel_rfl) (by rfl) (VPure.lss rfl rfl rfl) ?_)) | refine VCode.seq ?_ | refine VCode.region rfl ?_))
    refine VCode.cond_t rfl (decide_eq_true (by omega)) ?_
    (repeat (first | ((with_reducible refine VOps.same ?_); (first | (refine VOps.nil ?_; try dsimp only [VThen, VBlock]) | refine VOps.vp (by rfl) (by kernel_rfl) (by rfl) (VPure.move rfl rfl) ?_ | refine VOps.vp (by rfl) (by kernel_rfl) (by rfl) (VPure.assign rfl rfl) ?_ | refine VOps.vp (by rfl) (by kernel_rfl) (by rfl) (VPure.len_map TI.und' rfl rfl) ?_ | refine VOps.vp (by rfl) (by kernel_rfl) (by rfl) (VPure.idx_map rfl rfl rfl (by assumption)) ?_ | refine VOps.vv (by rfl) (by kernel_rfl) (by rfl) (VLoad.el1 rfl rfl rfl (by rfl)) ?_ | refine VOps.vp (by rfl) (by kernel_rfl) (by rfl) (VPure.addK rfl rfl rfl (by omega)) ?_ | refine VOps.vp (by rfl) (by kernel_rfl) (by rfl) (VPure.fnE rfl rfl) ?_)) | refine VCode.seq ?_ | refine VCode.region rfl ?_ | refine VCode.block ?_ | refine VCode.skip ?_))
    (refine VOps.callL (ch := [(0, .cells 3 [.val (.int .i64 (n.length : Int))])]) [0] rfl Try.func37 rfl (by kernel_rfl) rfl rfl rfl rfl ?hh (by decide) rfl rfl rfl (hasE_v n.length l hll) rfl (by rfl) rfl ?_; (case hh => repeat (first | exact SubH.nil | refine SubH.cons rfl rfl rfl ?_)))
    (repeat (first | ((with_reducible refine VOps.same ?_); (first | (refine VOps.nil ?_; try dsimp only [VThen, VBlock])))))
    refine VCode.cond rfl (fun hp => ?_) (fun hp => ?_)
    · have hg : goodNet n = false := by
        have : n.all (fun l => !l.any (bad n.length)) = false := by
          rw [List.all_eq_false]
          exact ⟨l, List.mem_of_getElem? ht, by rw [hp]; simp⟩
        unfold goodNet; rw [this]; simp
      (repeat (first | ((with_reducible refine VOps.same ?_); (first | (refine VOps.nil ?_; try dsimp only [VThen, VBlock]) | refine VOps.vp (by rfl) (by kernel_rfl) (by rfl) (VPure.assign rfl rfl) ?_)) | refine VCode.seq ?_ | refine VCode.region rfl ?_))
      refine VCode.retD rfl rfl (.tmp rfl .nil) ?_
      rw [hg]; rfl
    · (repeat (first | ((with_reducible refine VOps.same ?_); (first | (refine VOps.nil ?_; try dsimp only [VThen, VBlock]) | refine VOps.vp (by rfl) (by kernel_rfl) (by rfl) (VPure.move rfl rfl) ?_ | refine VOps.vp (by rfl) (by kernel_rfl) (by rfl) (VPure.addK rfl rfl rfl (by omega)) ?_)) | refine VCode.region rfl ?_ | refine VCode.skip ?_))
      (refine Less.mk (l := [0]) hcx ?ss ?hh rfl (by decide) rfl ⟨_, ?_, k + 1, by omega, rfl, ?_, rfl⟩; (case ss => repeat (first | exact SubS.nil | refine SubS.cons rfl rfl ?_ | refine SubS.cons (congrArg (fun z => some (V.val (Value.int IntKind.i64 z))) (by omega)) rfl ?_ | refine SubS.cons (congrArg (fun z => some (V.val (Value.bool z))) (by assumption)) rfl ?_)); (case hh => repeat (first | exact SubH.nil | refine SubH.cons rfl rfl rfl ?_)))
      · omega
      · intro y hy
        rw [List.take_add_one, ht] at hy
        rcases List.mem_append.1 hy with h | h
        · exact hb y h
        · obtain rfl := List.mem_singleton.1 h
          exact hp
  | none =>
    have hge : n.length ≤ k := List.getElem?_eq_none_iff.1 ht
    rw [List.take_of_length_le hge] at *
    (repeat (first | ((with_reducible refine VOps.same ?_); (first | (refine VOps.nil ?_; try dsimp only [VThen, VBlock]) | refine VOps.vp (by rfl) (by kernel_rfl) (by rfl) (VPure.lss rfl rfl rfl) ?_)) | refine VCode.seq ?_ | refine VCode.region rfl ?_))
    refine VCode.cond_f rfl (decide_eq_false (by omega)) ?_
    (repeat (first | ((with_reducible refine VOps.same ?_); (first | (refine VOps.nil ?_; try dsimp only [VThen, VBlock]) | refine VOps.vp (by rfl) (by kernel_rfl) (by rfl) (VPure.move rfl rfl) ?_ | refine VOps.vp (by rfl) (by kernel_rfl) (by rfl) (VPure.assign rfl rfl) ?_ | refine VOps.vp (by rfl) (by kernel_rfl) (by rfl) (VPure.leq rfl rfl rfl) ?_)) | refine VCode.seq ?_ | refine VCode.region rfl ?_ | refine VCode.exit ?_))
    refine VCode.retD rfl rfl (.tmp rfl .nil) ?_
    have ha : n.all (fun l => !l.any (bad n.length)) = true := List.all_eq_true.2 (fun l hl => by rw [hb l hl]; rfl)
    show V.val (.bool (decide ((many n : Int) ≤ 8000))) = _
    unfold goodNet
    rw [decide_eq_true h1, decide_eq_true h2, ha]
    simp only [Bool.true_and]
    exact congrArg (fun b => V.val (.bool b)) (decide_eq_decide.2 ⟨fun h => by omega, fun h => by omega⟩)
set_option maxHeartbeats 4000000 in
theorem rgood_v (n : Net) (hn : n.length ≤ 1000000) (hm : many n ≤ 1000000) : VCalls Try.prog 20 [netV n] [] 0 (Gives (.val (.bool (goodNet n)))) := by
  refine VCalls.enterD (n := 64) Try.func20 rfl rfl (by simp) rfl (fun cx hcx => ?_)
  (repeat (first | ((with_reducible refine VOps.same ?_); (first | (refine VOps.nil ?_; try dsimp only [VThen, VBlock]) | refine VOps.vp (by rfl) (by kernel_rfl) (by rfl) (VPure.assign rfl rfl) ?_ | refine VOps.box rfl rfl (by kernel_rfl) rfl rfl rfl rfl ?_)) | refine VCode.seq ?_ | refine VCode.region rfl ?_ | refine VCode.block ?_))
  refine VCode.loop (fun m st => ∃ k : Nat, k ≤ n.length ∧ m = n.length - k ∧ (∀ l ∈ n.take k, l.any (bad n.length) = false) ∧ st = ⟨[(4, .val (.int .i64 (k : Int))), (1, .ptr 0 0), (3, .val (.int .i64 (many (n.take k) : Int)))], [(0, .cells 24 [.sl 1 (n.map encL)])], 1⟩) n.length ?_ ?_
  · (refine Less.mk (l := [0]) hcx ?ss ?hh rfl (by decide) rfl ⟨0, by omega, by omega, by simp, rfl⟩; (case ss => repeat (first | exact SubS.nil | refine SubS.cons rfl rfl ?_ | refine SubS.cons (congrArg (fun z => some (V.val (Value.int IntKind.i64 z))) (by omega)) rfl ?_ | refine SubS.cons (congrArg (fun z => some (V.val (Value.bool z))) (by assumption)) rfl ?_)); (case hh => repeat (first | exact SubH.nil | refine SubH.cons rfl rfl rfl ?_)))
  rintro m st ⟨k, hk, rfl, hb, rfl⟩
  have hmk := many_le (n := n) (k := k)
  cases ht : n[k]? with
  | some l =>
    have hlt : k < n.length := (List.getElem?_eq_some_iff.1 ht).1
    have hms := many_succ ht
    have hml := many_le (n := n) (k := k + 1)
    (repeat (first | ((with_reducible refine VOps.same ?_); (first | (refine VOps.nil ?_; try dsimp only [VThen, VBlock]) | refine VOps.vp (by rfl) (by kernel_rfl) (by rfl) (VPure.move rfl rfl) ?_ | refine VOps.vp (by rfl) (by kernel_rfl) (by rfl) (VPure.len_map TI.und' rfl rfl) ?_ | refine VOps.vp (by rfl) (by kernel_rfl) (by rfl) (VPure.field_ptr rfl rfl rfl) ?_ | refine VOps.vv (by rfl) (by kernel_rfl) (by rfl) (VLoad.box1 rfl rfl rfl rfl (by rfl) (by decide)) ?_ | refine VOps.vp (by rfl) (by kernel_rfl) (by rfl) (VPure.lss rfl rfl rfl) ?_)) | refine VCode.seq ?_ | refine VCode.region rfl ?_))
    refine VCode.cond_t rfl (decide_eq_true (by omega)) ?_
    (repeat (first | ((with_reducible refine VOps.same ?_); (first | (refine VOps.nil ?_; try dsimp only [VThen, VBlock]) | refine VOps.vp (by rfl) (by kernel_rfl) (by rfl) (VPure.assign rfl rfl) ?_)) | refine VCode.seq ?_ | refine VCode.region rfl ?_ | refine VCode.block ?_ | refine VCode.skip ?_))
    refine VCode.loop (fun m st => ∃ j : Nat, j ≤ l.length ∧ m = l.length - j ∧ (∀ e ∈ l.take j, bad n.length e = false) ∧ st = ⟨[(5, .val (.int .i64 (j : Int))), (4, .val (.int .i64 (k : Int))), (1, .ptr 0 0), (3, .val (.int .i64 ((many (n.take k) + j : Nat) : Int)))], [(0, .cells 24 [.sl 1 (n.map encL)])], 1⟩) l.length ?_ ?_
    · (refine Less.mk (l := [0]) hcx ?ss ?hh rfl (by decide) rfl ⟨0, by omega, by omega, by simp, rfl⟩; (case ss => repeat (first | exact SubS.nil | refine SubS.cons rfl rfl ?_ | refine SubS.cons (congrArg (fun z => some (V.val (Value.int IntKind.i64 z))) (by omega)) rfl ?_ | refine SubS.cons (congrArg (fun z => some (V.val (Value.bool z))) (by assumption)) rfl ?_)); (case hh => repeat (first | exact SubH.nil | refine SubH.cons rfl rfl rfl ?_)))
    rintro m st ⟨j, hj, rfl, hbl, rfl⟩
    cases hu : l[j]? with
    | some e =>
      have hlt2 : j < l.length := (List.getElem?_eq_some_iff.1 hu).1
      have hbad : bad n.length e = true → goodNet n = false := fun hp => by
        have : n.all (fun l => !l.any (bad n.length)) = false := by
          rw [List.all_eq_false]
          exact ⟨l, List.mem_of_getElem? ht, by rw [List.any_eq_true.2 ⟨e, List.mem_of_getElem? hu, hp⟩]; simp⟩
        unfold goodNet; rw [this]; simp
      (repeat (first | ((with_reducible refine VOps.same ?_); (first | (refine VOps.nil ?_; try dsimp only [VThen, VBlock]) | refine VOps.vp (by rfl) (by kernel_rfl) (by rfl) (VPure.move rfl rfl) ?_ | refine VOps.vp (by rfl) (by kernel_rfl) (by rfl) (VPure.len_map TI.und' rfl rfl) ?_ | refine VOps.vp (by rfl) (by kernel_rfl) (by rfl) (VPure.idx_map rfl rfl rfl (by assumption)) ?_ | refine VOps.vp (by rfl) (by kernel_rfl) (by rfl) (VPure.field_ptr rfl rfl rfl) ?_ | refine VOps.vv (by rfl) (by kernel_rfl) (by rfl) (VLoad.el1 rfl rfl rfl (by rfl)) ?_ | refine VOps.vv (by rfl) (by kernel_rfl) (by rfl) (VLoad.box1 rfl rfl rfl rfl (by rfl) (by decide)) ?_ | refine VOps.vp (by rfl) (by kernel_rfl) (by rfl) (VPure.lss rfl rfl rfl) ?_)) | refine VCode.seq ?_ | refine VCode.region rfl ?_))
      refine VCode.cond_t rfl (decide_eq_true (by omega)) ?_
      (repeat (first | ((with_reducible refine VOps.same ?_); (first | (refine VOps.nil ?_; try dsimp only [VThen, VBlock]) | refine VOps.vp (by rfl) (by kernel_rfl) (by rfl) (VPure.move rfl rfl) ?_ | refine VOps.vp (by rfl) (by kernel_rfl) (by rfl) (VPure.idx_map rfl rfl rfl (by assumption)) ?_ | refine VOps.vp (by rfl) (by kernel_rfl) (by rfl) (VPure.field_ptr rfl rfl rfl) ?_ | refine VOps.vv (by rfl) (by kernel_rfl) (by rfl) (VLoad.el1 rfl rfl rfl (by rfl)) ?_ | refine VOps.vv (by rfl) (by kernel_rfl) (by rfl) (VLoad.box1 rfl rfl rfl rfl (by rfl) (by decide)) ?_ | refine VOps.vv (by rfl) (by kernel_rfl) (by rfl) (VLoad.elA rfl rfl (by rfl) (Nat.le_of_ble_eq_true (by rfl))) ?_ | refine VOps.vp (by rfl) (by kernel_rfl) (by rfl) (VPure.lss rfl rfl rfl) ?_ | refine VOps.alloc rfl rfl (by kernel_rfl) rfl (by kernel_rfl) rfl ?_ | refine VOps.store rfl rfl (by kernel_rfl) rfl rfl rfl rfl rfl rfl (Nat.le_of_ble_eq_true (by rfl)) rfl ?_)) | refine VCode.seq ?_ | refine VCode.region rfl ?_ | refine VCode.block ?_ | refine VCode.skip ?_))
      refine VOps.bool (d := 35) rfl (fun h1 => ?_) (fun h1 => ?_)
      · (repeat (first | ((with_reducible refine VOps.same ?_); (first | (refine VOps.nil ?_; try dsimp only [VThen, VBlock]) | refine VOps.vp (by rfl) (by kernel_rfl) (by rfl) (VPure.move rfl rfl) ?_ | refine VOps.vp (by rfl) (by kernel_rfl) (by rfl) (VPure.pick_t rfl rfl rfl) ?_ | refine VOps.passv rfl (by kernel_rfl) rfl ?_))))
        refine VCode.cond_t rfl rfl ?_
        (repeat (first | ((with_reducible refine VOps.same ?_); (first | (refine VOps.nil ?_; try dsimp only [VThen, VBlock]) | refine VOps.vp (by rfl) (by kernel_rfl) (by rfl) (VPure.assign rfl rfl) ?_)) | refine VCode.seq ?_ | refine VCode.region rfl ?_))
        refine VCode.retD rfl rfl (.tmp rfl .nil) ?_
        rw [hbad (by unfold bad; rw [h1]; rfl)]; rfl
      (repeat (first | ((with_reducible refine VOps.same ?_); (first | refine VOps.vp (by rfl) (by kernel_rfl) (by rfl) (VPure.move rfl rfl) ?_ | refine VOps.vp (by rfl) (by kernel_rfl) (by rfl) (VPure.field_ptr rfl rfl rfl) ?_ | refine VOps.vv (by rfl) (by kernel_rfl) (by rfl) (VLoad.box1 rfl rfl rfl rfl (by rfl) (by decide)) ?_ | refine VOps.vp (by rfl) (by kernel_rfl) (by rfl) (VPure.lss rfl rfl rfl) ?_ | refine VOps.vp (by rfl) (by kernel_rfl) (by rfl) (VPure.pick_f rfl rfl rfl) ?_))))
      refine VOps.bool (d := 40) rfl (fun h2 => ?_) (fun h2 => ?_)
      · (repeat (first | ((with_reducible refine VOps.same ?_); (first | (refine VOps.nil ?_; try dsimp only [VThen, VBlock]) | refine VOps.vp (by rfl) (by kernel_rfl) (by rfl) (VPure.pick_t rfl rfl rfl) ?_ | refine VOps.passv rfl (by kernel_rfl) rfl ?_))))
        refine VCode.cond_t rfl rfl ?_
        (repeat (first | ((with_reducible refine VOps.same ?_); (first | (refine VOps.nil ?_; try dsimp only [VThen, VBlock]) | refine VOps.vp (by rfl) (by kernel_rfl) (by rfl) (VPure.assign rfl rfl) ?_)) | refine VCode.seq ?_ | refine VCode.region rfl ?_))
        refine VCode.retD rfl rfl (.tmp rfl .nil) ?_
        rw [hbad (by unfold bad; rw [h1, h2]; rfl)]; rfl
      (repeat (first | ((with_reducible refine VOps.same ?_); (first | (refine VOps.nil ?_; try dsimp only [VThen, VBlock]) | refine VOps.vp (by rfl) (by kernel_rfl) (by rfl) (VPure.len_map TI.und' rfl rfl) ?_ | refine VOps.vp (by rfl) (by kernel_rfl) (by rfl) (VPure.field_ptr rfl rfl rfl) ?_ | refine VOps.vv (by rfl) (by kernel_rfl) (by rfl) (VLoad.box1 rfl rfl rfl rfl (by rfl) (by decide)) ?_ | refine VOps.vp (by rfl) (by kernel_rfl) (by rfl) (VPure.geq rfl rfl rfl) ?_ | refine VOps.vp (by rfl) (by kernel_rfl) (by rfl) (VPure.pick_f rfl rfl rfl) ?_))))
      refine VCode.cond rfl (fun h3 => ?_) (fun h3 => ?_)
      · (repeat (first | ((with_reducible refine VOps.same ?_); (first | (refine VOps.nil ?_; try dsimp only [VThen, VBlock]) | refine VOps.vp (by rfl) (by kernel_rfl) (by rfl) (VPure.assign rfl rfl) ?_)) | refine VCode.seq ?_ | refine VCode.region rfl ?_))
        refine VCode.retD rfl rfl (.tmp rfl .nil) ?_
        rw [hbad (by unfold bad; rw [h1, h2, h3]; rfl)]; rfl
      · (repeat (first | ((with_reducible refine VOps.same ?_); (first | (refine VOps.nil ?_; try dsimp only [VThen, VBlock]) | refine VOps.vp (by rfl) (by kernel_rfl) (by rfl) (VPure.move rfl rfl) ?_ | refine VOps.vp (by rfl) (by kernel_rfl) (by rfl) (VPure.assign rfl rfl) ?_ | refine VOps.vp (by rfl) (by kernel_rfl) (by rfl) (VPure.addK rfl rfl rfl (by omega)) ?_)) | refine VCode.region rfl ?_ | refine VCode.skip ?_))
        (refine Less.mk (l := [0]) hcx ?ss ?hh rfl (by decide) rfl ⟨_, ?_, j + 1, by omega, rfl, ?_, rfl⟩; (case ss => repeat (first | exact SubS.nil | refine SubS.cons rfl rfl ?_ | refine SubS.cons (congrArg (fun z => some (V.val (Value.int IntKind.i64 z))) (by omega)) rfl ?_ | refine SubS.cons (congrArg (fun z => some (V.val (Value.bool z))) (by assumption)) rfl ?_)); (case hh => repeat (first | exact SubH.nil | refine SubH.cons rfl rfl rfl ?_)))
        · omega
        · intro y hy
          rw [List.take_add_one, hu] at hy
          rcases List.mem_append.1 hy with h | h
          · exact hbl y h
          · obtain rfl := List.mem_singleton.1 h
            unfold bad; rw [h1, h2, h3]; rfl
    | none =>
      have hge : l.length ≤ j := List.getElem?_eq_none_iff.1 hu
      obtain rfl : j = l.length := by omega
      rw [List.take_length] at hbl
      rw [← hms]
      (repeat (first | ((with_reducible refine VOps.same ?_); (first | (refine VOps.nil ?_; try dsimp only [VThen, VBlock]) | refine VOps.vp (by rfl) (by kernel_rfl) (by rfl) (VPure.move rfl rfl) ?_ | refine VOps.vp (by rfl) (by kernel_rfl) (by rfl) (VPure.len_map TI.und' rfl rfl) ?_ | refine VOps.vp (by rfl) (by kernel_rfl) (by rfl) (VPure.idx_map rfl rfl rfl (by assumption)) ?_ | refine VOps.vp (by rfl) (by kernel_rfl) (by rfl) (VPure.field_ptr rfl rfl rfl) ?_ | refine VOps.vv (by rfl) (by kernel_rfl) (by rfl) (VLoad.el1 rfl rfl rfl (by rfl)) ?_ | refine VOps.vv (by rfl) (by kernel_rfl) (by rfl) (VLoad.box1 rfl rfl rfl rfl (by rfl) (by decide)) ?_ | refine VOps.vp (by rfl) (by kernel_rfl) (by rfl) (VPure.lss rfl rfl rfl) ?_)) | refine VCode.seq ?_ | refine VCode.region rfl ?_))
      refine VCode.cond_f rfl (decide_eq_false (by omega)) ?_
      (repeat (first | ((with_reducible refine VOps.same ?_); (first | (refine VOps.nil ?_; try dsimp only [VThen, VBlock]) | refine VOps.vp (by rfl) (by kernel_rfl) (by rfl) (VPure.move rfl rfl) ?_ | refine VOps.vp (by rfl) (by kernel_rfl) (by rfl) (VPure.assign rfl rfl) ?_ | refine VOps.vp (by rfl) (by kernel_rfl) (by rfl) (VPure.addK rfl rfl rfl (by omega)) ?_)) | refine VCode.region rfl ?_ | refine VCode.exit ?_))
      (refine Less.mk (l := [0]) hcx ?ss ?hh rfl (by decide) rfl ⟨_, ?_, k + 1, by omega, rfl, ?_, rfl⟩; (case ss => repeat (first | exact SubS.nil | refine SubS.cons rfl rfl ?_ | refine SubS.cons (congrArg (fun z => some (V.val (Value.int IntKind.i64 z))) (by omega)) rfl ?_ | refine SubS.cons (congrArg (fun z => some (V.val (Value.bool z))) (by assumption)) rfl ?_)); (case hh => repeat (first | exact SubH.nil | refine SubH.cons rfl rfl rfl ?_)))
      · omega
      · intro y hy
        rw [List.take_add_one, ht] at hy
        rcases List.mem_append.1 hy with h | h
        · exact hb y h
        · obtain rfl := List.mem_singleton.1 h
          exact List.any_eq_false.2 (fun e he => by rw [hbl e he]; simp)
  | none =>
    have hge : n.length ≤ k := List.getElem?_eq_none_iff.1 ht
    rw [List.take_of_length_le hge] at *
    have ha : n.all (fun l => !l.any (bad n.length)) = true := List.all_eq_true.2 (fun l hl => by rw [hb l hl]; rfl)
    have hfin : goodNet n = (decide ((2 : Int) ≤ n.length) && (decide ((n.length : Int) ≤ 2000) && decide ((many n : Int) ≤ 8000))) := by
      unfold goodNet
      rw [ha, Bool.and_true, Bool.and_assoc]
      congr 1
      · exact decide_eq_decide.2 ⟨fun h => by omega, fun h => by omega⟩
      · congr 1
        · exact decide_eq_decide.2 ⟨fun h => by omega, fun h => by omega⟩
        · exact decide_eq_decide.2 ⟨fun h => by omega, fun h => by omega⟩
    (repeat (first | ((with_reducible refine VOps.same ?_); (first | (refine VOps.nil ?_; try dsimp only [VThen, VBlock]) | refine VOps.vp (by rfl) (by kernel_rfl) (by rfl) (VPure.move rfl rfl) ?_ | refine VOps.vp (by rfl) (by kernel_rfl) (by rfl) (VPure.len_map TI.und' rfl rfl) ?_ | refine VOps.vp (by rfl) (by kernel_rfl) (by rfl) (VPure.field_ptr rfl rfl rfl) ?_ | refine VOps.vv (by rfl) (by kernel_rfl) (by rfl) (VLoad.box1 rfl rfl rfl rfl (by rfl) (by decide)) ?_ | refine VOps.vp (by rfl) (by kernel_rfl) (by rfl) (VPure.lss rfl rfl rfl) ?_)) | refine VCode.seq ?_ | refine VCode.region rfl ?_))
    refine VCode.cond_f rfl (decide_eq_false (by omega)) ?_
    (repeat (first | ((with_reducible refine VOps.same ?_); (first | refine VOps.vp (by rfl) (by kernel_rfl) (by rfl) (VPure.move rfl rfl) ?_ | refine VOps.vp (by rfl) (by kernel_rfl) (by rfl) (VPure.len_map TI.und' rfl rfl) ?_ | refine VOps.vp (by rfl) (by kernel_rfl) (by rfl) (VPure.field_ptr rfl rfl rfl) ?_ | refine VOps.vv (by rfl) (by kernel_rfl) (by rfl) (VLoad.box1 rfl rfl rfl rfl (by rfl) (by decide)) ?_ | refine VOps.vp (by rfl) (by kernel_rfl) (by rfl) (VPure.geq rfl rfl rfl) ?_)) | refine VCode.seq ?_ | refine VCode.region rfl ?_ | refine VCode.exit ?_))
    refine VOps.bool (d := 54) rfl (fun h1 => ?_) (fun h1 => ?_)
    · (repeat (first | ((with_reducible refine VOps.same ?_); (first | refine VOps.vp (by rfl) (by kernel_rfl) (by rfl) (VPure.move rfl rfl) ?_ | refine VOps.vp (by rfl) (by kernel_rfl) (by rfl) (VPure.len_map TI.und' rfl rfl) ?_ | refine VOps.vp (by rfl) (by kernel_rfl) (by rfl) (VPure.field_ptr rfl rfl rfl) ?_ | refine VOps.vv (by rfl) (by kernel_rfl) (by rfl) (VLoad.box1 rfl rfl rfl rfl (by rfl) (by decide)) ?_ | refine VOps.vp (by rfl) (by kernel_rfl) (by rfl) (VPure.leq rfl rfl rfl) ?_ | refine VOps.vp (by rfl) (by kernel_rfl) (by rfl) (VPure.pick_t rfl rfl rfl) ?_))))
      refine VOps.bool (d := 60) rfl (fun h2 => ?_) (fun h2 => ?_)
      · (repeat (first | ((with_reducible refine VOps.same ?_); (first | (refine VOps.nil ?_; try dsimp only [VThen, VBlock]) | refine VOps.vp (by rfl) (by kernel_rfl) (by rfl) (VPure.move rfl rfl) ?_ | refine VOps.vp (by rfl) (by kernel_rfl) (by rfl) (VPure.assign rfl rfl) ?_ | refine VOps.vp (by rfl) (by kernel_rfl) (by rfl) (VPure.leq rfl rfl rfl) ?_ | refine VOps.vp (by rfl) (by kernel_rfl) (by rfl) (VPure.pick_t rfl rfl rfl) ?_))))
        refine VCode.retD rfl rfl (.tmp rfl .nil) ?_
        rw [hfin, h1, h2]; rfl
      · (repeat (first | ((with_reducible refine VOps.same ?_); (first | (refine VOps.nil ?_; try dsimp only [VThen, VBlock]) | refine VOps.vp (by rfl) (by kernel_rfl) (by rfl) (VPure.assign rfl rfl) ?_ | refine VOps.vp (by rfl) (by kernel_rfl) (by rfl) (VPure.pick_f rfl rfl rfl) ?_ | refine VOps.passv rfl (by kernel_rfl) rfl ?_))))
        refine VCode.retD rfl rfl (.tmp rfl .nil) ?_
        rw [hfin, h1, h2]; rfl
    · (repeat (first | ((with_reducible refine VOps.same ?_); (first | (refine VOps.nil ?_; try dsimp only [VThen, VBlock]) | refine VOps.vp (by rfl) (by kernel_rfl) (by rfl) (VPure.move rfl rfl) ?_ | refine VOps.vp (by rfl) (by kernel_rfl) (by rfl) (VPure.assign rfl rfl) ?_ | refine VOps.vp (by rfl) (by kernel_rfl) (by rfl) (VPure.pick_f rfl rfl rfl) ?_ | refine VOps.passv rfl (by kernel_rfl) rfl ?_))))
      refine VCode.retD rfl rfl (.tmp rfl .nil) ?_
      rw [hfin, h1]; rfl
end Go.Proofs.Ytbpjlpokmnmmmaa.V
