/- close: closed. -/
import Derived.Test.YtbpjlpokmnmmmaaVSort
import Derived.Test.YtbpjlpokmnmmmaaClosure
set_option linter.unusedVariables false
set_option linter.unusedSimpArgs false
namespace Go.Proofs.Ytbpjlpokmnmmmaa.V
open Go Go.RowKit Go.Proofs.Ytbpjlpokmnmmmaa.CG
def adjL (l : List NEdge) : List Nat := (l.filter fun e => decide (e.1 = -1)).map fun e => e.2.toNat
def adj (n : Net) (s : Nat) : List Nat := adjL (n.getD s [])
theorem add_m {bs : List Bool} {buf : List Nat} {cap s : Nat} (hs : s < bs.length) (hroom : buf.length + falses bs ≤ cap) : VCalls Try.prog 33 [.val (.int .i64 (s : Int)), .ptr 0 0, .ptr 1 0] (addH bs buf cap) 4 (Leaves (.tup []) (addH (CG.mark (buf, bs) s).2 (CG.mark (buf, bs) s).1 cap) 4) := by
  obtain ⟨b, hb⟩ : ∃ b, bs[s]? = some b := ⟨_, List.getElem?_eq_getElem hs⟩
  have hg : bs.getD s true = b := by rw [List.getD_eq_getElem?_getD, hb]; rfl
  have := add_v (cap := cap) (buf := buf) hb (fun h => by
    have := falses_set bs s (by rw [hg, h])
    omega)
  unfold CG.mark
  cases b with
  | true => rw [hg]; simpa using this
  | false => rw [hg]; simpa using this
theorem mark_mem (s : List Nat × List Bool) (b x : Nat) (h : x ∈ (CG.mark s b).1) : x ∈ s.1 ∨ x = b := by
  unfold CG.mark at h
  split at h
  · rcases List.mem_append.1 h with h | h
    · exact .inl h
    · exact .inr (List.mem_singleton.1 h)
  · exact .inl h
theorem marks_mem (l : List Nat) : ∀ (s : List Nat × List Bool) (x : Nat), x ∈ (l.foldl CG.mark s).1 → x ∈ s.1 ∨ x ∈ l := by
  induction l with
  | nil => intro s x h; exact .inl h
  | cons b l ih =>
    intro s x h
    rcases ih _ x h with h | h
    · rcases mark_mem s b x h with h | rfl
      · exact .inl h
      · exact .inr List.mem_cons_self
    · exact .inr (List.mem_cons_of_mem _ h)
theorem adjL_succ {es : List NEdge} {j : Nat} {e : NEdge} (h : es[j]? = some e) : adjL (es.take (j + 1)) = adjL (es.take j) ++ (if e.1 = -1 then [e.2.toNat] else []) := by
  unfold adjL
  rw [List.take_add_one, h]
  by_cases hc : e.1 = -1
  · simp [hc]
  · simp [hc]
set_option maxHeartbeats 4000000 in
theorem closed_v (n : Net) (l r : List Nat) (hn : n.length ≤ 2000) (hl : ∀ s ∈ l, s < n.length) (hll : l.length ≤ 1000000000) (hg : ∀ es ∈ n, ∀ e ∈ es, 0 ≤ e.2 ∧ e.2 < n.length) (he : ∀ es ∈ n, es.length ≤ 8000) (hr : bfo (adj n) (n.length + 1) (starts l n.length).1 (starts l n.length).2 [] = some r) : VCalls Try.prog 24 [netV n, .sl 1 (l.map encN)] [] 0 (Gives (.sl 1 ((r.mergeSort fun x y => decide (x ≤ y)).map encN))) := by
  refine VCalls.enterD (n := 62) Try.func24 rfl rfl (by simp) rfl (fun cx hcx => ?_)
  (repeat (first | ((with_reducible refine VOps.same ?_); (first | (refine VOps.nil ?_; try dsimp only [VThen, VBlock]) | refine VOps.vp (by rfl) (by kernel_rfl) (by rfl) (VPure.assign rfl rfl) ?_ | refine VOps.vp (by rfl) (by kernel_rfl) (by rfl) (VPure.len_map TI.und' rfl rfl) ?_ | refine VOps.vp (by rfl) (by kernel_rfl) (by rfl) (VPure.field_ptr rfl rfl rfl) ?_ | refine VOps.vv (by rfl) (by kernel_rfl) (by rfl) (VLoad.box1 rfl rfl rfl rfl (by rfl) (by decide)) ?_ | refine VOps.box rfl rfl (by kernel_rfl) rfl rfl rfl rfl ?_)) | refine VCode.seq ?_ | refine VCode.region rfl ?_))
  (refine VOps.make (f := encB) (a := false) rfl rfl (by kernel_rfl) rfl (by kernel_rfl) (by rfl) (by decide) rfl rfl ?b1 ?b2 (by rfl) ?_; (case b1 => unfold most; (first | omega | (simp only [List.length_map, List.length_append, List.length_cons, List.length_nil] at *; omega) | (simp; omega))); (case b2 => unfold most; (first | omega | (simp only [List.length_map, List.length_append, List.length_cons, List.length_nil] at *; omega) | (simp; omega))))
  (repeat (first | ((with_reducible refine VOps.same ?_); (first | (refine VOps.nil ?_; try dsimp only [VThen, VBlock]) | refine VOps.vp (by rfl) (by kernel_rfl) (by rfl) (VPure.move rfl rfl) ?_ | refine VOps.vp (by rfl) (by kernel_rfl) (by rfl) (VPure.assign rfl rfl) ?_ | refine VOps.vp (by rfl) (by kernel_rfl) (by rfl) (VPure.len_map TI.und' rfl rfl) ?_ | refine VOps.vp (by rfl) (by kernel_rfl) (by rfl) (VPure.len_arr TI.und' rfl rfl rfl) ?_ | refine VOps.vv (by rfl) (by kernel_rfl) (by rfl) (VLoad.box1 rfl rfl rfl rfl (by rfl) (by decide)) ?_ | refine VOps.alloc rfl rfl (by kernel_rfl) rfl (by kernel_rfl) rfl ?_ | refine VOps.store rfl rfl (by kernel_rfl) rfl rfl rfl rfl rfl rfl (Nat.le_of_ble_eq_true (by rfl)) rfl ?_ | refine VOps.vp (by rfl) (by kernel_rfl) (by rfl) (VPure.fnE rfl rfl) ?_ | (refine VOps.makeChan rfl rfl (by kernel_rfl) rfl rfl ?b1 ?b2 ?_; (case b1 => unfold most; (first | omega | (simp only [List.length_map, List.length_append, List.length_cons, List.length_nil] at *; omega) | (simp; omega))); (case b2 => unfold most; (first | omega | (simp only [List.length_map, List.length_append, List.length_cons, List.length_nil] at *; omega) | (simp; omega)))))) | refine VCode.seq ?_ | refine VCode.region rfl ?_ | refine VCode.block ?_))
  refine VCode.hsays 3 (.chan n.length [] false) rfl rfl (by simp) ?_
  refine VCode.loop (fun m st => ∃ (k : Nat) (q : List Nat) (bs : List Bool), k ≤ l.length ∧ m = l.length - k ∧ (q, bs) = (l.take k).foldl CG.mark ([], List.replicate n.length false) ∧ st = ⟨[(24, .val (.int .i64 (k : Int))), (22, .sl 1 (l.map encN)), (23, .val (.int .i64 (l.length : Int))), (7, .fn 33 [.ptr 1 0, .ptr 2 0]), (2, .ptr 0 0), (6, .ptr 2 0)], [(0, .cells 24 [.sl 1 (n.map encL)]), (1, .cells 53 [.ref 3]), (2, .cells 58 [.ref 4]), (3, .arr 4 1 (bs.map encB)), (4, .chan n.length (q.map encN) false)], 5⟩) l.length ?_ ?_
  · (refine Less.mk (l := [0, 2, 4, 1, 3]) hcx ?ss ?hh rfl (by decide) rfl ⟨0, [], List.replicate n.length false, by omega, by omega, rfl, rfl⟩; (case ss => repeat (first | exact SubS.nil | refine SubS.cons rfl rfl ?_ | refine SubS.cons (congrArg (fun z => some (V.val (Value.int IntKind.i64 z))) (by omega)) rfl ?_ | refine SubS.cons (congrArg (fun z => some (V.val (Value.bool z))) (by assumption)) rfl ?_)); (case hh => repeat (first | exact SubH.nil | refine SubH.cons rfl rfl rfl ?_)))
  rintro m st ⟨k, q, bs, hk, rfl, hqb, rfl⟩
  have hlen := (marks_len (l.take k) ([], List.replicate n.length false)).2
  have hfit := (marks_len (l.take k) ([], List.replicate n.length false)).1
  rw [← hqb] at hlen hfit
  have hfit : q.length + falses bs ≤ n.length := by
    rw [hfit]; simp [falses, List.countP_replicate]
  simp only [List.length_replicate] at hlen
  cases ht : l[k]? with
  | some s =>
    have hlt : k < l.length := (List.getElem?_eq_some_iff.1 ht).1
    have hslt : s < bs.length := by rw [hlen]; exact hl s (List.mem_of_getElem? ht)
    (repeat (first | ((with_reducible refine VOps.same ?_); (first | (refine VOps.nil ?_; try dsimp only [VThen, VBlock]) | refine VOps.vp (by rfl) (by kernel_rfl) (by rfl) (VPure.lss rfl rfl rfl) ?_)) | refine VCode.seq ?_ | refine VCode.region rfl ?_))
    refine VCode.cond_t rfl (decide_eq_true (by omega)) ?_
    (repeat (first | ((with_reducible refine VOps.same ?_); (first | (refine VOps.nil ?_; try dsimp only [VThen, VBlock]) | refine VOps.vp (by rfl) (by kernel_rfl) (by rfl) (VPure.move rfl rfl) ?_ | refine VOps.vp (by rfl) (by kernel_rfl) (by rfl) (VPure.assign rfl rfl) ?_ | refine VOps.vp (by rfl) (by kernel_rfl) (by rfl) (VPure.idx_map rfl rfl rfl (by assumption)) ?_ | refine VOps.vv (by rfl) (by kernel_rfl) (by rfl) (VLoad.el1 rfl rfl rfl (by rfl)) ?_)) | refine VCode.seq ?_ | refine VCode.region rfl ?_ | refine VCode.block ?_ | refine VCode.skip ?_))
    (refine VOps.callL (ch := [(0, .cells 53 [.ref 2]), (1, .cells 58 [.ref 3]), (2, .arr 4 1 (bs.map encB)), (3, .chan n.length (q.map encN) false)]) [1, 2, 3, 4] rfl Try.func33 rfl (by kernel_rfl) rfl rfl rfl rfl ?hh (by decide) rfl rfl rfl (add_m hslt hfit) rfl (by rfl) rfl ?_; (case hh => repeat (first | exact SubH.nil | refine SubH.cons rfl rfl rfl ?_)))
    (repeat (first | ((with_reducible refine VOps.same ?_); (first | (refine VOps.nil ?_; try dsimp only [VThen, VBlock]) | refine VOps.vp (by rfl) (by kernel_rfl) (by rfl) (VPure.move rfl rfl) ?_ | refine VOps.vp (by rfl) (by kernel_rfl) (by rfl) (VPure.addK rfl rfl rfl (by omega)) ?_)) | refine VCode.region rfl ?_))
    (refine Less.mk (l := [0, 1, 2, 3, 4]) hcx ?ss ?hh rfl (by decide) rfl ⟨_, ?_, k + 1, (CG.mark (q, bs) s).1, (CG.mark (q, bs) s).2, by omega, rfl, ?_, rfl⟩; (case ss => repeat (first | exact SubS.nil | refine SubS.cons rfl rfl ?_ | refine SubS.cons (congrArg (fun z => some (V.val (Value.int IntKind.i64 z))) (by omega)) rfl ?_ | refine SubS.cons (congrArg (fun z => some (V.val (Value.bool z))) (by assumption)) rfl ?_)); (case hh => repeat (first | exact SubH.nil | refine SubH.cons rfl rfl rfl ?_)))
    · omega
    · rw [List.take_add_one, ht, List.foldl_append, ← hqb]; rfl
  | none =>
    have hge : l.length ≤ k := List.getElem?_eq_none_iff.1 ht
    obtain rfl : k = l.length := by omega
    rw [List.take_length] at hqb
    have hr : bfo (adj n) (n.length + 1) q bs [] = some r := by
      have : starts l n.length = (q, bs) := hqb.symm
      rw [this] at hr; exact hr
    (repeat (first | ((with_reducible refine VOps.same ?_); (first | (refine VOps.nil ?_; try dsimp only [VThen, VBlock]) | refine VOps.vp (by rfl) (by kernel_rfl) (by rfl) (VPure.lss rfl rfl rfl) ?_)) | refine VCode.seq ?_ | refine VCode.region rfl ?_))
    refine VCode.cond_f rfl (decide_eq_false (by omega)) ?_
    (repeat (first | ((with_reducible refine VOps.same ?_); (first | (refine VOps.nil ?_; try dsimp only [VThen, VBlock]) | refine VOps.vp (by rfl) (by kernel_rfl) (by rfl) (VPure.assign rfl rfl) ?_)) | refine VCode.seq ?_ | refine VCode.region rfl ?_ | refine VCode.block ?_ | refine VCode.exit ?_))
    refine VCode.nilObj 10 3 1 rfl ?_
    refine VCode.loop (fun m st => ∃ (q : List Nat) (bs : List Bool) (done : List Nat), bfo (adj n) m q bs done = some r ∧ q.length + falses bs ≤ n.length ∧ bs.length = n.length ∧ (∀ x ∈ q, x < n.length) ∧ done.length + m ≤ n.length + 1 ∧ st = ⟨[(10, .ref 5), (7, .fn 33 [.ptr 1 0, .ptr 2 0]), (2, .ptr 0 0), (6, .ptr 2 0)], [(0, .cells 24 [.sl 1 (n.map encL)]), (1, .cells 53 [.ref 3]), (2, .cells 58 [.ref 4]), (3, .arr 4 1 (bs.map encB)), (4, .chan n.length (q.map encN) false), (5, .arr 3 1 (done.map encN))], 6⟩) (n.length + 1) ?_ ?_
    · (refine Less.mk (l := [0, 1, 2, 3, 4, 5]) hcx ?ss ?hh rfl (by decide) rfl ⟨q, bs, [], hr, hfit, hlen, ?_, by simp, rfl⟩; (case ss => repeat (first | exact SubS.nil | refine SubS.cons rfl rfl ?_ | refine SubS.cons (congrArg (fun z => some (V.val (Value.int IntKind.i64 z))) (by omega)) rfl ?_ | refine SubS.cons (congrArg (fun z => some (V.val (Value.bool z))) (by assumption)) rfl ?_)); (case hh => repeat (first | exact SubH.nil | refine SubH.cons rfl rfl rfl ?_)))
      intro x hx
      rcases marks_mem l ([], List.replicate n.length false) x (by rw [← hqb]; exact hx) with h | h
      · cases h
      · exact hl x h
    clear hr hfit hlen hqb
    rintro m st ⟨q, bs, done, hr, hfit, hlen, hq, hm, rfl⟩
    cases m with
    | zero => cases hr
    | succ m =>
    cases q with
    | nil =>
      obtain rfl : done = r := Option.some.inj hr
      (repeat (first | ((with_reducible refine VOps.same ?_); (first | (refine VOps.nil ?_; try dsimp only [VThen, VBlock]) | refine VOps.vp (by rfl) (by kernel_rfl) (by rfl) (VPure.extract rfl rfl rfl) ?_ | refine VOps.vv (by rfl) (by kernel_rfl) (by rfl) (VLoad.box1 rfl rfl rfl rfl (by rfl) (by decide)) ?_ | refine VOps.vp (by rfl) (by kernel_rfl) (by rfl) (VPure.eqi rfl rfl rfl) ?_ | refine VOps.sel_none rfl rfl rfl rfl rfl ?_)) | refine VCode.seq ?_ | refine VCode.region rfl ?_ | refine VCode.block ?_))
      refine VCode.cond_f rfl rfl ?_
      (repeat (first | ((with_reducible refine VOps.same ?_); (first | refine VOps.vp (by rfl) (by kernel_rfl) (by rfl) (VPure.move rfl rfl) ?_)) | refine VCode.seq ?_ | refine VCode.region rfl ?_))
      (refine VOps.callL (ch := [(0, .arr 3 1 (done.map encN))]) [5] rfl Try.func25 rfl (by kernel_rfl) rfl rfl rfl rfl ?hh (by decide) rfl rfl rfl (sort_v done (by omega)) rfl (by rfl) rfl ?_; (case hh => repeat (first | exact SubH.nil | refine SubH.cons rfl rfl rfl ?_)))
      (repeat (first | ((with_reducible refine VOps.same ?_); (first | (refine VOps.nil ?_; try dsimp only [VThen, VBlock]) | refine VOps.vp (by rfl) (by kernel_rfl) (by rfl) (VPure.move rfl rfl) ?_ | refine VOps.vp (by rfl) (by kernel_rfl) (by rfl) (VPure.assign rfl rfl) ?_)) | refine VCode.seq ?_ | refine VCode.region rfl ?_))
      refine VCode.freeze (id := 5) rfl ?_
      refine VCode.retD rfl rfl (.tmp rfl .nil) ?_
      rfl
    | cons x q =>
      have hxn : x < n.length := hq x (by simp)
      obtain ⟨es, hes⟩ : ∃ es, n[x]? = some es := ⟨_, List.getElem?_eq_getElem hxn⟩
      have hesm := List.mem_of_getElem? hes
      have hel := he es hesm
      have hadj : adj n x = adjL es := by unfold adj; rw [List.getD_eq_getElem?_getD, hes]; rfl
      have hr : bfo (adj n) m ((adjL es).foldl CG.mark (q, bs)).1 ((adjL es).foldl CG.mark (q, bs)).2 (done ++ [x]) = some r := by rw [← hadj]; exact hr
      (repeat (first | ((with_reducible refine VOps.same ?_); (first | (refine VOps.nil ?_; try dsimp only [VThen, VBlock]) | refine VOps.vp (by rfl) (by kernel_rfl) (by rfl) (VPure.extract rfl rfl rfl) ?_ | refine VOps.vv (by rfl) (by kernel_rfl) (by rfl) (VLoad.box1 rfl rfl rfl rfl (by rfl) (by decide)) ?_ | refine VOps.vp (by rfl) (by kernel_rfl) (by rfl) (VPure.eqi rfl rfl rfl) ?_ | refine VOps.sel_some rfl rfl rfl rfl rfl ?_)) | refine VCode.seq ?_ | refine VCode.region rfl ?_ | refine VCode.block ?_))
      refine VCode.cond_t rfl rfl ?_
      (repeat (first | ((with_reducible refine VOps.same ?_); (first | (refine VOps.nil ?_; try dsimp only [VThen, VBlock]) | refine VOps.vp (by rfl) (by kernel_rfl) (by rfl) (VPure.move rfl rfl) ?_ | refine VOps.vp (by rfl) (by kernel_rfl) (by rfl) (VPure.assign rfl rfl) ?_ | refine VOps.vp (by rfl) (by kernel_rfl) (by rfl) (VPure.extract rfl rfl rfl) ?_ | refine VOps.one rfl rfl (by kernel_rfl) rfl (by rfl) (by decide) (by decide) rfl (by rfl) (by rfl) ?_)) | refine VCode.seq ?_ | refine VCode.region rfl ?_))
      refine VOps.append (zs := (done ++ [x]).map encN) rfl rfl (by kernel_rfl) rfl (by rfl) (by decide) rfl (.arr rfl) rfl (.arr rfl) (by simp only [List.length_append, List.length_cons, List.length_nil, List.length_map]; unfold most; omega) (by simp only [List.length_append, List.length_cons, List.length_nil, List.length_map]; unfold most; omega) rfl ( by rw [List.map_append]; rfl) ?_
      (repeat (first | ((with_reducible refine VOps.same ?_); (first | (refine VOps.nil ?_; try dsimp only [VThen, VBlock]) | refine VOps.vp (by rfl) (by kernel_rfl) (by rfl) (VPure.move rfl rfl) ?_ | refine VOps.vp (by rfl) (by kernel_rfl) (by rfl) (VPure.assign rfl rfl) ?_ | refine VOps.vp (by rfl) (by kernel_rfl) (by rfl) (VPure.len_map TI.und' rfl rfl) ?_ | refine VOps.vp (by rfl) (by kernel_rfl) (by rfl) (VPure.idx_map rfl rfl rfl (by assumption)) ?_ | refine VOps.vp (by rfl) (by kernel_rfl) (by rfl) (VPure.field_ptr rfl rfl rfl) ?_ | refine VOps.vv (by rfl) (by kernel_rfl) (by rfl) (VLoad.el1 rfl rfl rfl (by rfl)) ?_ | refine VOps.vv (by rfl) (by kernel_rfl) (by rfl) (VLoad.box1 rfl rfl rfl rfl (by rfl) (by decide)) ?_)) | refine VCode.seq ?_ | refine VCode.region rfl ?_ | refine VCode.block ?_))
      refine VCode.loop (fun m' st => ∃ (j : Nat) (q' : List Nat) (bs' : List Bool), j ≤ es.length ∧ m' = es.length - j ∧ (q', bs') = (adjL (es.take j)).foldl CG.mark (q, bs) ∧ st = ⟨[(50, .val (.int .i64 (j : Int))), (48, .sl 2 (es.map encE)), (49, .val (.int .i64 (es.length : Int))), (10, .ref 5), (7, .fn 33 [.ptr 1 0, .ptr 2 0]), (2, .ptr 0 0), (6, .ptr 2 0)], [(0, .cells 24 [.sl 1 (n.map encL)]), (1, .cells 53 [.ref 3]), (2, .cells 58 [.ref 4]), (3, .arr 4 1 (bs'.map encB)), (4, .chan n.length (q'.map encN) false), (5, .arr 3 1 ((done ++ [x]).map encN))], 6⟩) es.length ?_ ?_
      · (refine Less.mk (l := [0, 1, 2, 3, 4, 7]) hcx ?ss ?hh rfl (by decide) rfl ⟨0, q, bs, by omega, by omega, rfl, rfl⟩; (case ss => repeat (first | exact SubS.nil | refine SubS.cons rfl rfl ?_ | refine SubS.cons (congrArg (fun z => some (V.val (Value.int IntKind.i64 z))) (by omega)) rfl ?_ | refine SubS.cons (congrArg (fun z => some (V.val (Value.bool z))) (by assumption)) rfl ?_)); (case hh => repeat (first | exact SubH.nil | refine SubH.cons rfl rfl rfl ?_)))
      rintro m' st ⟨j, q', bs', hj, rfl, hqb', rfl⟩
      have hlen' := (marks_len (adjL (es.take j)) (q, bs)).2
      have hfit' := (marks_len (adjL (es.take j)) (q, bs)).1
      have hmem' := marks_mem (adjL (es.take j)) (q, bs)
      rw [← hqb'] at hlen' hfit' hmem'
      simp only [List.length_cons] at hfit hlen' hfit'
      have hfit2 : q'.length + falses bs' ≤ n.length := by omega
      cases ht2 : es[j]? with
      | none =>
        have hge2 : es.length ≤ j := List.getElem?_eq_none_iff.1 ht2
        obtain rfl : j = es.length := by omega
        rw [List.take_length] at hqb' hmem'
        rw [← hqb'] at hr
        (repeat (first | ((with_reducible refine VOps.same ?_); (first | (refine VOps.nil ?_; try dsimp only [VThen, VBlock]) | refine VOps.vp (by rfl) (by kernel_rfl) (by rfl) (VPure.lss rfl rfl rfl) ?_)) | refine VCode.seq ?_ | refine VCode.region rfl ?_))
        refine VCode.cond_f rfl (decide_eq_false (by omega)) ?_
        (repeat (first | refine VCode.exit ?_))
        (refine Less.mk (l := [0, 1, 2, 3, 4, 5]) hcx ?ss ?hh rfl (by decide) rfl ⟨m, Nat.lt_succ_self m, q', bs', done ++ [x], hr, hfit2, by omega, ?_, by rw [List.length_append, List.length_singleton]; omega, rfl⟩; (case ss => repeat (first | exact SubS.nil | refine SubS.cons rfl rfl ?_ | refine SubS.cons (congrArg (fun z => some (V.val (Value.int IntKind.i64 z))) (by omega)) rfl ?_ | refine SubS.cons (congrArg (fun z => some (V.val (Value.bool z))) (by assumption)) rfl ?_)); (case hh => repeat (first | exact SubH.nil | refine SubH.cons rfl rfl rfl ?_)))
        intro y hy
        rcases hmem' y hy with h | h
        · exact hq y (List.mem_cons_of_mem _ h)
        · unfold adjL at h
          obtain ⟨e, he1, rfl⟩ := List.mem_map.1 h
          have := hg es hesm e (List.mem_filter.1 he1).1
          omega
      | some e =>
        have hlt2 : j < es.length := (List.getElem?_eq_some_iff.1 ht2).1
        have hge := hg es hesm e (List.mem_of_getElem? ht2)
        have hs := adjL_succ ht2
        (repeat (first | ((with_reducible refine VOps.same ?_); (first | (refine VOps.nil ?_; try dsimp only [VThen, VBlock]) | refine VOps.vp (by rfl) (by kernel_rfl) (by rfl) (VPure.lss rfl rfl rfl) ?_)) | refine VCode.seq ?_ | refine VCode.region rfl ?_))
        refine VCode.cond_t rfl (decide_eq_true (by omega)) ?_
        (repeat (first | ((with_reducible refine VOps.same ?_); (first | (refine VOps.nil ?_; try dsimp only [VThen, VBlock]) | refine VOps.vp (by rfl) (by kernel_rfl) (by rfl) (VPure.idx_map rfl rfl rfl (by assumption)) ?_ | refine VOps.vp (by rfl) (by kernel_rfl) (by rfl) (VPure.field_ptr rfl rfl rfl) ?_ | refine VOps.vv (by rfl) (by kernel_rfl) (by rfl) (VLoad.box1 rfl rfl rfl rfl (by rfl) (by decide)) ?_ | refine VOps.vv (by rfl) (by kernel_rfl) (by rfl) (VLoad.elA rfl rfl (by rfl) (Nat.le_of_ble_eq_true (by rfl))) ?_ | refine VOps.vp (by rfl) (by kernel_rfl) (by rfl) (VPure.eqi rfl rfl rfl) ?_ | refine VOps.alloc rfl rfl (by kernel_rfl) rfl (by kernel_rfl) rfl ?_ | refine VOps.store rfl rfl (by kernel_rfl) rfl rfl rfl rfl rfl rfl (Nat.le_of_ble_eq_true (by rfl)) rfl ?_)) | refine VCode.seq ?_ | refine VCode.region rfl ?_ | refine VCode.block ?_ | refine VCode.skip ?_))
        refine VCode.cond rfl (fun hb => ?_) (fun hb => ?_)
        · have hb : e.1 = -1 := of_decide_eq_true hb
          rw [if_pos hb] at hs
          have hslt : e.2.toNat < bs'.length := by omega
          (repeat (first | ((with_reducible refine VOps.same ?_); (first | refine VOps.vp (by rfl) (by kernel_rfl) (by rfl) (VPure.move rfl rfl) ?_ | refine VOps.vp (by rfl) (by kernel_rfl) (by rfl) (VPure.field_ptr rfl rfl rfl) ?_ | refine VOps.vv (by rfl) (by kernel_rfl) (by rfl) (VLoad.box1 rfl rfl rfl rfl (by rfl) (by decide)) ?_)) | refine VCode.region rfl ?_))
          refine VOps.says (d := 59) (v := .val (.int .i64 ((e.2.toNat : Nat) : Int))) rfl (by show V.val (Value.int IntKind.i64 e.2) = _; rw [Int.toNat_of_nonneg hge.1]) ?_
          (refine VOps.callL (ch := [(0, .cells 53 [.ref 2]), (1, .cells 58 [.ref 3]), (2, .arr 4 1 (bs'.map encB)), (3, .chan n.length (q'.map encN) false)]) [1, 2, 3, 4] rfl Try.func33 rfl (by kernel_rfl) rfl rfl rfl rfl ?hh (by decide) rfl rfl rfl (add_m hslt hfit2) rfl (by rfl) rfl ?_; (case hh => repeat (first | exact SubH.nil | refine SubH.cons rfl rfl rfl ?_)))
          (repeat (first | ((with_reducible refine VOps.same ?_); (first | (refine VOps.nil ?_; try dsimp only [VThen, VBlock]) | refine VOps.vp (by rfl) (by kernel_rfl) (by rfl) (VPure.move rfl rfl) ?_ | refine VOps.vp (by rfl) (by kernel_rfl) (by rfl) (VPure.addK rfl rfl rfl (by omega)) ?_)) | refine VCode.region rfl ?_))
          (refine Less.mk (l := [0, 1, 2, 3, 4, 5]) hcx ?ss ?hh rfl (by decide) rfl ⟨_, ?_, j + 1, (CG.mark (q', bs') e.2.toNat).1, (CG.mark (q', bs') e.2.toNat).2, by omega, rfl, ?_, rfl⟩; (case ss => repeat (first | exact SubS.nil | refine SubS.cons rfl rfl ?_ | refine SubS.cons (congrArg (fun z => some (V.val (Value.int IntKind.i64 z))) (by omega)) rfl ?_ | refine SubS.cons (congrArg (fun z => some (V.val (Value.bool z))) (by assumption)) rfl ?_)); (case hh => repeat (first | exact SubH.nil | refine SubH.cons rfl rfl rfl ?_)))
          · omega
          · rw [hs, List.foldl_append, ← hqb']; rfl
        · have hb : ¬ e.1 = -1 := of_decide_eq_false hb
          rw [if_neg hb, List.append_nil] at hs
          (repeat (first | ((with_reducible refine VOps.same ?_); (first | (refine VOps.nil ?_; try dsimp only [VThen, VBlock]) | refine VOps.vp (by rfl) (by kernel_rfl) (by rfl) (VPure.move rfl rfl) ?_ | refine VOps.vp (by rfl) (by kernel_rfl) (by rfl) (VPure.addK rfl rfl rfl (by omega)) ?_)) | refine VCode.region rfl ?_ | refine VCode.skip ?_))
          (refine Less.mk (l := [0, 1, 2, 3, 4, 5]) hcx ?ss ?hh rfl (by decide) rfl ⟨_, ?_, j + 1, q', bs', by omega, rfl, by rw [hs]; exact hqb', rfl⟩; (case ss => repeat (first | exact SubS.nil | refine SubS.cons rfl rfl ?_ | refine SubS.cons (congrArg (fun z => some (V.val (Value.int IntKind.i64 z))) (by omega)) rfl ?_ | refine SubS.cons (congrArg (fun z => some (V.val (Value.bool z))) (by assumption)) rfl ?_)); (case hh => repeat (first | exact SubH.nil | refine SubH.cons rfl rfl rfl ?_)))
          omega
end Go.Proofs.Ytbpjlpokmnmmmaa.V
