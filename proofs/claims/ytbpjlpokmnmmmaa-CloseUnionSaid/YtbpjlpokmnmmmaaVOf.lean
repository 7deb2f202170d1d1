/- close: may, Of, Step, Ends. -/
import Derived.Test.YtbpjlpokmnmmmaaVGood
import Derived.Test.YtbpjlpokmnmmmaaVClosed
set_option linter.unusedVariables false
set_option linter.unusedSimpArgs false
namespace Go.Proofs.Ytbpjlpokmnmmmaa.V
open Go Go.RowKit Go.Proofs.Ytbpjlpokmnmmmaa.CG
def outOf (n : Nat) (s : Int) : Bool := decide (s < 0) || decide ((n : Int) ≤ s)
def netB (n : Net) : Heap := [(0, .cells 24 [.sl 1 (n.map encL)])]
set_option maxHeartbeats 1000000 in
theorem may1_v (n : Net) (s : Int) : VCalls Try.prog 32 [.val (.int .i64 s), .ptr 0 0] (netB n) 1 (Leaves (.val (.bool (outOf n.length s))) (netB n) 1) := by
  refine VCalls.enterL (n := 13) Try.func32 rfl rfl (by simp) (fun cx hcx => ?_)
  unfold netB
  (repeat (first | ((with_reducible refine VOps.same ?_); (first | (refine VOps.nil ?_; try dsimp only [VThen, VBlock]) | refine VOps.vp (by rfl) (by kernel_rfl) (by rfl) (VPure.move rfl rfl) ?_ | refine VOps.vp (by rfl) (by kernel_rfl) (by rfl) (VPure.assign rfl rfl) ?_ | refine VOps.vp (by rfl) (by kernel_rfl) (by rfl) (VPure.lss rfl rfl rfl) ?_)) | refine VCode.seq ?_ | refine VCode.region rfl ?_))
  refine VOps.bool (d := 6) rfl (fun h1 => ?_) (fun h1 => ?_)
  · (repeat (first | ((with_reducible refine VOps.same ?_); (first | (refine VOps.nil ?_; try dsimp only [VThen, VBlock]) | refine VOps.vp (by rfl) (by kernel_rfl) (by rfl) (VPure.assign rfl rfl) ?_ | refine VOps.vp (by rfl) (by kernel_rfl) (by rfl) (VPure.pick_t rfl rfl rfl) ?_ | refine VOps.passv rfl (by kernel_rfl) rfl ?_))))
    refine VCode.ret ?_
    have hb : true = outOf n.length s := by unfold outOf; rw [h1]; rfl
    (show Less cx _ _; refine Less.mkx (l := [0]) (st' := ⟨[(3, .val (.bool (outOf n.length s)))], [(0, .cells 24 [.sl 1 (n.map encL)])], 1⟩) 1 hcx (Nat.le_of_ble_eq_true rfl) (by decide) ?ss ?hh rfl (by decide) rfl ⟨_, (.tmp rfl .nil), rfl, rfl, rfl⟩; (case ss => repeat (first | exact SubS.nil | refine SubS.cons rfl rfl ?_ | refine SubS.cons (congrArg (fun z => some (V.val (Value.int IntKind.i64 z))) (by omega)) rfl ?_ | refine SubS.cons (congrArg (fun z => some (V.val (Value.bool z))) (by assumption)) rfl ?_)); (case hh => repeat (first | exact SubH.nil | refine SubH.cons rfl rfl rfl ?_)))
  (repeat (first | ((with_reducible refine VOps.same ?_); (first | (refine VOps.nil ?_; try dsimp only [VThen, VBlock]) | refine VOps.vp (by rfl) (by kernel_rfl) (by rfl) (VPure.move rfl rfl) ?_ | refine VOps.vp (by rfl) (by kernel_rfl) (by rfl) (VPure.assign rfl rfl) ?_ | refine VOps.vp (by rfl) (by kernel_rfl) (by rfl) (VPure.len_map TI.und' rfl rfl) ?_ | refine VOps.vp (by rfl) (by kernel_rfl) (by rfl) (VPure.field_ptr rfl rfl rfl) ?_ | refine VOps.vv (by rfl) (by kernel_rfl) (by rfl) (VLoad.box1 rfl rfl rfl rfl (by rfl) (by decide)) ?_ | refine VOps.vp (by rfl) (by kernel_rfl) (by rfl) (VPure.geq rfl rfl rfl) ?_ | refine VOps.vp (by rfl) (by kernel_rfl) (by rfl) (VPure.pick_f rfl rfl rfl) ?_))))
  refine VCode.ret ?_
  have hb : decide ((n.length : Int) ≤ s) = outOf n.length s := by unfold outOf; rw [h1]; rfl
  (show Less cx _ _; refine Less.mkx (l := [0]) (st' := ⟨[(3, .val (.bool (outOf n.length s)))], [(0, .cells 24 [.sl 1 (n.map encL)])], 1⟩) 1 hcx (Nat.le_of_ble_eq_true rfl) (by decide) ?ss ?hh rfl (by decide) rfl ⟨_, (.tmp rfl .nil), rfl, rfl, rfl⟩; (case ss => repeat (first | exact SubS.nil | refine SubS.cons rfl rfl ?_ | refine SubS.cons (congrArg (fun z => some (V.val (Value.int IntKind.i64 z))) (by omega)) rfl ?_ | refine SubS.cons (congrArg (fun z => some (V.val (Value.bool z))) (by assumption)) rfl ?_)); (case hh => repeat (first | exact SubH.nil | refine SubH.cons rfl rfl rfl ?_)))
set_option maxHeartbeats 1000000 in
theorem idxI_v (n : Net) (l : List Int) (hl : l.length ≤ 1000000) : VCalls Try.prog 39 [.sl 1 (l.map encZ), .fn 32 [.ptr 0 0]] (netB n) 1 (Leaves (.val (.int .i64 (firstAt (outOf n.length) l))) (netB n) 1) := by
  refine VCalls.enterL (n := 19) Try.func39 rfl rfl (by simp) (fun cx hcx => ?_)
  unfold netB
  (repeat (first | ((with_reducible refine VOps.same ?_); (first | (refine VOps.nil ?_; try dsimp only [VThen, VBlock]) | refine VOps.vp (by rfl) (by kernel_rfl) (by rfl) (VPure.move rfl rfl) ?_ | refine VOps.vp (by rfl) (by kernel_rfl) (by rfl) (VPure.assign rfl rfl) ?_ | refine VOps.vp (by rfl) (by kernel_rfl) (by rfl) (VPure.len_map TI.und' rfl rfl) ?_)) | refine VCode.seq ?_ | refine VCode.region rfl ?_ | refine VCode.block ?_))
  refine VCode.loop (fun m st => ∃ k : Nat, k ≤ l.length ∧ m = l.length - k ∧ (∀ y ∈ l.take k, outOf n.length y = false) ∧ st = ⟨[(8, .val (.int .i64 (k : Int))), (7, .val (.int .i64 (l.length : Int))), (0, .sl 1 (l.map encZ)), (1, .fn 32 [.ptr 0 0])], [(0, .cells 24 [.sl 1 (n.map encL)])], 1⟩) l.length ?_ ?_
  · (refine Less.mkx (l := [0]) 1 hcx (by exact Nat.le_of_ble_eq_true rfl) (by decide) ?ss ?hh rfl (by decide) rfl ⟨0, by omega, by omega, by simp, rfl⟩; (case ss => repeat (first | exact SubS.nil | refine SubS.cons rfl rfl ?_ | refine SubS.cons (congrArg (fun z => some (V.val (Value.int IntKind.i64 z))) (by omega)) rfl ?_ | refine SubS.cons (congrArg (fun z => some (V.val (Value.bool z))) (by assumption)) rfl ?_)); (case hh => repeat (first | exact SubH.nil | refine SubH.cons rfl rfl rfl ?_)))
  rintro m st ⟨k, hk, rfl, hb, rfl⟩
  cases ht : l[k]? with
  | some e =>
    have hlt : k < l.length := (List.getElem?_eq_some_iff.1 ht).1
    (repeat (first | ((with_reducible refine VOps.same ?_); (first | (refine VOps.nil ?_; try dsimp only [VThen, VBlock]) | refine VOps.vp (by rfl) (by kernel_rfl) (by rfl) (VPure.lss rfl rfl rfl) ?_)) | refine VCode.seq ?_ | refine VCode.region rfl ?_))
    refine VCode.cond_t rfl (decide_eq_true (by omega)) ?_
    (repeat (first | ((with_reducible refine VOps.same ?_); (first | (refine VOps.nil ?_; try dsimp only [VThen, VBlock]) | refine VOps.vp (by rfl) (by kernel_rfl) (by rfl) (VPure.move rfl rfl) ?_ | refine VOps.vp (by rfl) (by kernel_rfl) (by rfl) (VPure.assign rfl rfl) ?_ | refine VOps.vp (by rfl) (by kernel_rfl) (by rfl) (VPure.idx_map rfl rfl rfl (by assumption)) ?_ | refine VOps.vv (by rfl) (by kernel_rfl) (by rfl) (VLoad.el1 rfl rfl rfl (by rfl)) ?_)) | refine VCode.seq ?_ | refine VCode.region rfl ?_ | refine VCode.block ?_ | refine VCode.skip ?_))
    (refine VOps.callL (ch := [(0, .cells 24 [.sl 1 (n.map encL)])]) [0] rfl Try.func32 rfl (by kernel_rfl) rfl rfl rfl rfl ?hh (by decide) rfl rfl rfl (may1_v n e) rfl (by rfl) rfl ?_; (case hh => repeat (first | exact SubH.nil | refine SubH.cons rfl rfl rfl ?_)))
    (repeat (first | ((with_reducible refine VOps.same ?_); (first | (refine VOps.nil ?_; try dsimp only [VThen, VBlock])))))
    refine VCode.cond rfl (fun hp => ?_) (fun hp => ?_)
    · (repeat (first | ((with_reducible refine VOps.same ?_); (first | (refine VOps.nil ?_; try dsimp only [VThen, VBlock]) | refine VOps.vp (by rfl) (by kernel_rfl) (by rfl) (VPure.move rfl rfl) ?_ | refine VOps.vp (by rfl) (by kernel_rfl) (by rfl) (VPure.assign rfl rfl) ?_)) | refine VCode.seq ?_ | refine VCode.region rfl ?_))
      refine VCode.ret ?_
      have hr : (k : Int) = firstAt (outOf n.length) l := (firstAt_some ht hp hb).symm
      (show Less cx _ _; refine Less.mkx (l := [0]) (st' := ⟨[(4, .val (.int .i64 (firstAt (outOf n.length) l)))], [(0, .cells 24 [.sl 1 (n.map encL)])], 1⟩) 1 hcx (Nat.le_of_ble_eq_true rfl) (by decide) ?ss ?hh rfl (by decide) rfl ⟨_, (.tmp rfl .nil), rfl, rfl, rfl⟩; (case ss => repeat (first | exact SubS.nil | refine SubS.cons rfl rfl ?_ | refine SubS.cons (congrArg (fun z => some (V.val (Value.int IntKind.i64 z))) (by omega)) rfl ?_ | refine SubS.cons (congrArg (fun z => some (V.val (Value.bool z))) (by assumption)) rfl ?_)); (case hh => repeat (first | exact SubH.nil | refine SubH.cons rfl rfl rfl ?_)))
    · (repeat (first | ((with_reducible refine VOps.same ?_); (first | (refine VOps.nil ?_; try dsimp only [VThen, VBlock]) | refine VOps.vp (by rfl) (by kernel_rfl) (by rfl) (VPure.move rfl rfl) ?_ | refine VOps.vp (by rfl) (by kernel_rfl) (by rfl) (VPure.addK rfl rfl rfl (by omega)) ?_)) | refine VCode.region rfl ?_ | refine VCode.skip ?_))
      (refine Less.mkx (l := [0]) 1 hcx (by exact Nat.le_of_ble_eq_true rfl) (by decide) ?ss ?hh rfl (by decide) rfl ⟨_, ?_, k + 1, by omega, rfl, ?_, rfl⟩; (case ss => repeat (first | exact SubS.nil | refine SubS.cons rfl rfl ?_ | refine SubS.cons (congrArg (fun z => some (V.val (Value.int IntKind.i64 z))) (by omega)) rfl ?_ | refine SubS.cons (congrArg (fun z => some (V.val (Value.bool z))) (by assumption)) rfl ?_)); (case hh => repeat (first | exact SubH.nil | refine SubH.cons rfl rfl rfl ?_)))
      · omega
      · intro y hy
        rw [List.take_add_one, ht] at hy
        rcases List.mem_append.1 hy with h | h
        · exact hb y h
        · obtain rfl := List.mem_singleton.1 h
          exact hp
  | none =>
    have hge : l.length ≤ k := List.getElem?_eq_none_iff.1 ht
    rw [List.take_of_length_le hge] at hb
    (repeat (first | ((with_reducible refine VOps.same ?_); (first | (refine VOps.nil ?_; try dsimp only [VThen, VBlock]) | refine VOps.vp (by rfl) (by kernel_rfl) (by rfl) (VPure.lss rfl rfl rfl) ?_)) | refine VCode.seq ?_ | refine VCode.region rfl ?_))
    refine VCode.cond_f rfl (decide_eq_false (by omega)) ?_
    (repeat (first | ((with_reducible refine VOps.same ?_); (first | (refine VOps.nil ?_; try dsimp only [VThen, VBlock]) | refine VOps.vp (by rfl) (by kernel_rfl) (by rfl) (VPure.assign rfl rfl) ?_)) | refine VCode.seq ?_ | refine VCode.region rfl ?_ | refine VCode.exit ?_))
    refine VCode.ret ?_
    have hr : -1 = firstAt (outOf n.length) l := (firstAt_none hb).symm
    (show Less cx _ _; refine Less.mkx (l := [0]) (st' := ⟨[(4, .val (.int .i64 (firstAt (outOf n.length) l)))], [(0, .cells 24 [.sl 1 (n.map encL)])], 1⟩) 1 hcx (Nat.le_of_ble_eq_true rfl) (by decide) ?ss ?hh rfl (by decide) rfl ⟨_, (.tmp rfl .nil), rfl, rfl, rfl⟩; (case ss => repeat (first | exact SubS.nil | refine SubS.cons rfl rfl ?_ | refine SubS.cons (congrArg (fun z => some (V.val (Value.int IntKind.i64 z))) (by omega)) rfl ?_ | refine SubS.cons (congrArg (fun z => some (V.val (Value.bool z))) (by assumption)) rfl ?_)); (case hh => repeat (first | exact SubH.nil | refine SubH.cons rfl rfl rfl ?_)))
set_option maxHeartbeats 1000000 in
theorem hasI_v (n : Net) (l : List Int) (hl : l.length ≤ 1000000) : VCalls Try.prog 31 [.sl 1 (l.map encZ), .fn 32 [.ptr 0 0]] (netB n) 1 (Leaves (.val (.bool (l.any (outOf n.length)))) (netB n) 1) := by
  refine VCalls.enterL (n := 9) Try.func31 rfl rfl (by simp) (fun cx hcx => ?_)
  unfold netB
  (repeat (first | ((with_reducible refine VOps.same ?_); (first | (refine VOps.nil ?_; try dsimp only [VThen, VBlock]) | refine VOps.vp (by rfl) (by kernel_rfl) (by rfl) (VPure.move rfl rfl) ?_ | refine VOps.vp (by rfl) (by kernel_rfl) (by rfl) (VPure.assign rfl rfl) ?_)) | refine VCode.seq ?_ | refine VCode.region rfl ?_))
  (refine VOps.callL (ch := [(0, .cells 24 [.sl 1 (n.map encL)])]) [0] rfl Try.func39 rfl (by kernel_rfl) rfl rfl rfl rfl ?hh (by decide) rfl rfl rfl (idxI_v n l hl) rfl (by rfl) rfl ?_; (case hh => repeat (first | exact SubH.nil | refine SubH.cons rfl rfl rfl ?_)))
  (repeat (first | ((with_reducible refine VOps.same ?_); (first | (refine VOps.nil ?_; try dsimp only [VThen, VBlock]) | refine VOps.vp (by rfl) (by kernel_rfl) (by rfl) (VPure.assign rfl rfl) ?_ | refine VOps.vp (by rfl) (by kernel_rfl) (by rfl) (VPure.geq rfl rfl rfl) ?_))))
  refine VCode.ret ?_
  have hr : decide (0 ≤ firstAt (outOf n.length) l) = l.any (outOf n.length) := firstAt_ge _ _
  (show Less cx _ _; refine Less.mkx (l := [0]) (st' := ⟨[(4, .val (.bool (l.any (outOf n.length))))], [(0, .cells 24 [.sl 1 (n.map encL)])], 1⟩) 1 hcx (Nat.le_of_ble_eq_true rfl) (by decide) ?ss ?hh rfl (by decide) rfl ⟨_, (.tmp rfl .nil), rfl, rfl, rfl⟩; (case ss => repeat (first | exact SubS.nil | refine SubS.cons rfl rfl ?_ | refine SubS.cons (congrArg (fun z => some (V.val (Value.int IntKind.i64 z))) (by omega)) rfl ?_ | refine SubS.cons (congrArg (fun z => some (V.val (Value.bool z))) (by assumption)) rfl ?_)); (case hh => repeat (first | exact SubH.nil | refine SubH.cons rfl rfl rfl ?_)))
def mayB (n : Net) (l : List Int) : Bool := goodNet n && !l.any (outOf n.length)
set_option maxHeartbeats 1000000 in
theorem may_v (n : Net) (l : List Int) (hn : n.length ≤ 1000000) (hm : many n ≤ 1000000) (hl : l.length ≤ 1000000) : VCalls Try.prog 23 [netV n, .sl 1 (l.map encZ)] [] 0 (Gives (.val (.bool (mayB n l)))) := by
  refine VCalls.enterD (n := 13) Try.func23 rfl rfl (by simp) rfl (fun cx hcx => ?_)
  (repeat (first | ((with_reducible refine VOps.same ?_); (first | (refine VOps.nil ?_; try dsimp only [VThen, VBlock]) | refine VOps.vp (by rfl) (by kernel_rfl) (by rfl) (VPure.assign rfl rfl) ?_ | refine VOps.vv (by rfl) (by kernel_rfl) (by rfl) (VLoad.boxA rfl rfl rfl (by rfl) (Nat.le_of_ble_eq_true (by rfl)) (by decide)) ?_ | refine VOps.box rfl rfl (by kernel_rfl) rfl rfl rfl rfl ?_)) | refine VCode.seq ?_ | refine VCode.region rfl ?_))
  refine VOps.pure rfl Try.func30 rfl (by kernel_rfl) rfl rfl rfl rfl rfl rfl rfl (good_v n hn hm) ?_
  (repeat (first | ((with_reducible refine VOps.same ?_); (first | refine VOps.vp (by rfl) (by kernel_rfl) (by rfl) (VPure.move rfl rfl) ?_))))
  refine VOps.bool (d := 7) rfl (fun h1 => ?_) (fun h1 => ?_)
  · (repeat (first | ((with_reducible refine VOps.same ?_); (first | refine VOps.vp (by rfl) (by kernel_rfl) (by rfl) (VPure.move rfl rfl) ?_ | refine VOps.vp (by rfl) (by kernel_rfl) (by rfl) (VPure.fnE rfl rfl) ?_))))
    (refine VOps.callL (ch := [(0, .cells 24 [.sl 1 (n.map encL)])]) [0] rfl Try.func31 rfl (by kernel_rfl) rfl rfl rfl rfl ?hh (by decide) rfl rfl rfl (hasI_v n l hl) rfl (by rfl) rfl ?_; (case hh => repeat (first | exact SubH.nil | refine SubH.cons rfl rfl rfl ?_)))
    (repeat (first | ((with_reducible refine VOps.same ?_); (first | (refine VOps.nil ?_; try dsimp only [VThen, VBlock]) | refine VOps.vp (by rfl) (by kernel_rfl) (by rfl) (VPure.assign rfl rfl) ?_ | refine VOps.vp (by rfl) (by kernel_rfl) (by rfl) (VPure.not rfl rfl) ?_ | refine VOps.vp (by rfl) (by kernel_rfl) (by rfl) (VPure.pick_t rfl rfl rfl) ?_))))
    refine VCode.retD rfl rfl (.tmp rfl .nil) ?_
    unfold mayB; rw [h1]; rfl
  · (repeat (first | ((with_reducible refine VOps.same ?_); (first | (refine VOps.nil ?_; try dsimp only [VThen, VBlock]) | refine VOps.vp (by rfl) (by kernel_rfl) (by rfl) (VPure.assign rfl rfl) ?_ | refine VOps.vp (by rfl) (by kernel_rfl) (by rfl) (VPure.pick_f rfl rfl rfl) ?_ | refine VOps.passv rfl (by kernel_rfl) rfl ?_))))
    refine VCode.retD rfl rfl (.tmp rfl .nil) ?_
    unfold mayB; rw [h1]; rfl
def clos (n : Net) (l : List Nat) : List Nat := ((bfo (adj n) (n.length + 1) (starts l n.length).1 (starts l n.length).2 []).getD []).mergeSort fun x y => decide (x ≤ y)
def nats (l : List Int) : List Nat := l.map Int.toNat
theorem may_nats {n : Net} {l : List Int} (h : mayB n l = true) : l.map encZ = (nats l).map encN ∧ ∀ s ∈ nats l, s < n.length := by
  unfold mayB at h
  simp only [Bool.and_eq_true, Bool.not_eq_true', List.any_eq_false] at h
  have hs : ∀ s ∈ l, 0 ≤ s ∧ s < n.length := fun s hs => by
    have := h.2 s hs
    unfold outOf at this
    simp at this; omega
  refine ⟨?_, fun s h' => ?_⟩
  · unfold nats
    rw [List.map_map]
    refine List.map_congr_left (fun s h' => ?_)
    have := hs s h'
    show [D.val (.int .i64 s)] = [D.val (.int .i64 (s.toNat : Int))]
    rw [Int.toNat_of_nonneg this.1]
  · obtain ⟨q, hq, rfl⟩ := List.mem_map.1 h'
    have := hs q hq
    omega
theorem good_edges {n : Net} (h : goodNet n = true) : n.length ≤ 2000 ∧ 2 ≤ n.length ∧ many n ≤ 8000 ∧ (∀ es ∈ n, ∀ e ∈ es, -1 ≤ e.1 ∧ 0 ≤ e.2 ∧ e.2 < n.length) ∧ ∀ es ∈ n, es.length ≤ 8000 := by
  unfold goodNet at h
  simp only [Bool.and_eq_true, decide_eq_true_eq, List.all_eq_true, Bool.not_eq_true', List.any_eq_false] at h
  refine ⟨h.1.1.2, h.1.1.1, h.2, fun es hes e he => ?_, fun es hes => Nat.le_trans (many_mem hes) h.2⟩
  have := h.1.2 es hes e he
  unfold bad at this
  simp at this; omega
theorem clos_v {n : Net} {l : List Int} (h : mayB n l = true) (hl : l.length ≤ 1000000000) : VCalls Try.prog 24 [netV n, .sl 1 (l.map encZ)] [] 0 (Gives (.sl 1 ((clos n (nats l)).map encN))) := by
  obtain ⟨e1, e2⟩ := may_nats h
  have hg : goodNet n = true := by unfold mayB at h; simp only [Bool.and_eq_true] at h; exact h.1
  obtain ⟨g1, g2, g3, g4, g5⟩ := good_edges hg
  obtain ⟨r, hr⟩ := bfo_starts_some (adj n) (nats l) n.length
  have := closed_v n (nats l) r g1 e2 (by unfold nats; rw [List.length_map]; exact hl) (fun es hes e he => (g4 es hes e he).2) g5 hr
  rw [e1]
  unfold clos
  rw [hr]; exact this
def ofR (n : Net) (l : List Int) : V := .tup [.sl 1 ((if mayB n l = true then clos n (nats l) else []).map encN), .val (.int .i64 (if mayB n l = true then 0 else 1))]
set_option maxHeartbeats 1000000 in
theorem of_v (n : Net) (l : List Int) (hn : n.length ≤ 1000000) (hm : many n ≤ 1000000) (hl : l.length ≤ 1000000) : VCalls Try.prog 10 [netV n, .sl 1 (l.map encZ)] [] 0 (Gives (ofR n l)) := by
  refine VCalls.enterD (n := 13) Try.func10 rfl rfl (by simp) rfl (fun cx hcx => ?_)
  (repeat (first | ((with_reducible refine VOps.same ?_); (first | (refine VOps.nil ?_; try dsimp only [VThen, VBlock]) | refine VOps.vp (by rfl) (by kernel_rfl) (by rfl) (VPure.move rfl rfl) ?_ | refine VOps.vp (by rfl) (by kernel_rfl) (by rfl) (VPure.assign rfl rfl) ?_ | refine VOps.vv (by rfl) (by kernel_rfl) (by rfl) (VLoad.boxA rfl rfl rfl (by rfl) (Nat.le_of_ble_eq_true (by rfl)) (by decide)) ?_ | refine VOps.box rfl rfl (by kernel_rfl) rfl rfl rfl rfl ?_)) | refine VCode.seq ?_ | refine VCode.region rfl ?_))
  refine VOps.pure rfl Try.func23 rfl (by kernel_rfl) rfl rfl rfl rfl rfl rfl rfl (may_v n l hn hm hl) ?_
  (repeat (first | ((with_reducible refine VOps.same ?_); (first | (refine VOps.nil ?_; try dsimp only [VThen, VBlock]) | refine VOps.vp (by rfl) (by kernel_rfl) (by rfl) (VPure.not rfl rfl) ?_))))
  refine VCode.cond rfl (fun h1 => ?_) (fun h1 => ?_)
  · have h1 : mayB n l = false := by simpa using h1
    (repeat (first | ((with_reducible refine VOps.same ?_); (first | (refine VOps.nil ?_; try dsimp only [VThen, VBlock]) | refine VOps.vp (by rfl) (by kernel_rfl) (by rfl) (VPure.assign rfl rfl) ?_)) | refine VCode.seq ?_ | refine VCode.region rfl ?_))
    refine VCode.nilS 4 1 rfl ?_
    refine VCode.retD rfl rfl (.tmp rfl (.tmp rfl .nil)) ?_
    unfold ofR; rw [h1]; rfl
  · have h1 : mayB n l = true := by simpa using h1
    (repeat (first | ((with_reducible refine VOps.same ?_); (first | refine VOps.vp (by rfl) (by kernel_rfl) (by rfl) (VPure.move rfl rfl) ?_ | refine VOps.vv (by rfl) (by kernel_rfl) (by rfl) (VLoad.boxA rfl rfl rfl (by rfl) (Nat.le_of_ble_eq_true (by rfl)) (by decide)) ?_)) | refine VCode.seq ?_ | refine VCode.region rfl ?_ | refine VCode.skip ?_))
    refine VOps.gives rfl Try.func24 rfl (by kernel_rfl) rfl rfl rfl rfl rfl rfl rfl rfl (clos_v h1 (by omega)) ?_
    (repeat (first | ((with_reducible refine VOps.same ?_); (first | (refine VOps.nil ?_; try dsimp only [VThen, VBlock]) | refine VOps.vp (by rfl) (by kernel_rfl) (by rfl) (VPure.assign rfl rfl) ?_))))
    refine VCode.retD rfl rfl (.tmp rfl (.tmp rfl .nil)) ?_
    unfold ofR; rw [h1]; rfl
end Go.Proofs.Ytbpjlpokmnmmmaa.V
